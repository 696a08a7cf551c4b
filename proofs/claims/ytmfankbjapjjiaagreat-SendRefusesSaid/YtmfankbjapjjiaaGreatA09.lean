/-
  Part of a proof: lemmas and definitions of this work.
  No condition.
-/
import Derived.Test.YtmfankbjapjjiaaGreatA08
set_option linter.all false
set_option maxRecDepth 100000
set_option maxHeartbeats 8000000
namespace Go.Eng
open Go Go.Proofs
def yx (n:Int) (q:Nat):Int:=IntKind.u8.wrap (n.fdiv (2 ^ (8*(3 - q))))
def kZ (n:Int):Nat->List (List AV)
 |0=>[]
 |q+1=>kZ n q++[[.v (.int .u8 (yx n q))]]
theorem uG (n:Int):∀ q,(kZ n q).length=q
 |0=>rfl
 |q+1=>by simp [kZ,uG n q]
theorem abM (n:Int) (q:Nat):(kZ n q).take q=kZ n q:=List.take_of_length_le (by rw [uG];omega)
theorem akg (n:Int) (h0:0<=n) (h1:n<=1073741824):Fn Tryz.prog 185 [Nl,I n,I 4] [] (.aG [.sl 1 (kZ n 4),I 0]) [] []:=by
 refine Fn.aO Ms (by simp) ?_
 unfold Mr SC.mk'
 have e1:decide (n<0)=false:=by simpa using h0
 have e2:IntKind.i64.wrap (1*2 ^ (min (IntKind.u64.wrap (IntKind.i64.wrap (8*4))).toNat 64))=4294967296:=by decide
 have e3:decide (4294967296<=n)=false:=by simp;omega
 have e4:IntKind.i64.wrap (4 - 1)=3:=by decide
 have e5:decide ((4:Int)<1)=false:=rfl
 have e6:decide ((6:Int)<4)=false:=rfl
 simp only [e1,e2,e3,e4,e5,e6,go_sem]
 refine ⟨Nat.zero_le _,?_⟩
 refine go_loop (fun q:{q:Nat // q<=4}=>⟨1000,[(1,I n),(8,.own 176 1 0 q.1),(9,I (3 - (q.1:Int)))],[(176,.row 5 1 (kZ n q.1))]⟩) (fun q=>4 - q.1) ⟨0,by omega⟩
  (Wk.mk [(176,176)] [] rfl rfl (by simp only [cO,bK,au,rv,kZ,go_sem]) (by simp only [go_sem]) (by simp only [rv,kZ,go_sem];try rfl)) ?_
 intro q B hB
 simp only [go_sem]
 refine bD (fun h2=> ?_) (fun h2=> ?_)<;>simp only [h2,go_sem]
 ·have e7:q.1<=3:=by simp only [decide_eq_true_eq] at h2;omega
  have e8:IntKind.u64.wrap (IntKind.i64.wrap (8*(3 - (q.1:Int))))=((8*(3 - q.1):Nat):Int):=by rw [bF (by omega),IntKind.wrap_u64];omega
  have e9:min (8*(3 - q.1)) 64=8*(3 - q.1):=by omega
  have e10:IntKind.i64.wrap (3 - (q.1:Int) - 1)=3 - ((q.1+1:Nat):Int):=by rw [bF (by omega)];omega
  have e11:IntKind.u8.wrap (n.fdiv (2 ^ (8*(3 - q.1))))=yx n q.1:=rfl
  simp only [e8,e9,e10,e11,Int.toNat_natCast,uG,abM,List.reduceReplicate,List.length_set,List.length_replicate,List.length_cons,List.length_nil,List.set_cons_zero,List.set_cons_succ,go_sem]
  have hm:q.1+1<=maxLen:=Nat.le_trans (show q.1+1<=4 by omega) (by decide)
  exact ⟨⟨by omega,hm,Nat.le_refl _⟩,hB _ ⟨q.1+1,by omega⟩ (by simp only;omega) (Wk.mk [(176,1080)] [] rfl rfl (by simp only [cO,bK,au,rv,kZ,go_sem]) (by simp only [go_sem]) (by simp only [rv,kZ,go_sem]))⟩
 ·have e7:q.1=4:=by have:=q.2;simp only [decide_eq_false_iff_not] at h2;omega
  simp only [e7,go_sem]
  refine Fin.aD _ rfl rfl ?_
  simp only [ay,rv,au,uG,abM,List.drop_zero,go_sem]
  simp
def abN (h:Int) (x:List AV):Int:=match x with
 |[.v (.int .u8 b)]=>bits .and .i64 (IntKind.i64.wrap (bits .xor .i64 h b*16777619)) 4294967295
 |_=>h
def yA (xs:List (List AV)):Nat->Int
 |0=>2166136261
 |j+1=>abN (yA xs j) (nth xs j)
theorem akh (xs:List (List AV)) (hl:xs.length<=100000) (hx:∀ k,k<xs.length->∃ b:Int,(0<=b/\b<=255)/\nth xs k=[.v (.int .u8 b)]):Fn Tryz.prog 241 [.sl 1 xs] [] (I (yA xs xs.length)) [] []:=by
 refine Fn.aO ME (by simp) ?_
 unfold MC SC.mk'
 simp only [go_sem]
 refine go_loop (fun j:{j:Nat // j<=xs.length}=>⟨1000,[(0,.sl 1 xs),(3,I (yA xs j.1)),(4,I j.1)],[]⟩) (fun j=>xs.length - j.1) ⟨0,by omega⟩
  (Wk.mk [] [] rfl rfl (by simp only [go_sem]) (by simp only [go_sem]) (by simp only [rv,yA,go_sem];try rfl)) ?_
 intro j B hB
 simp only [go_sem]
 refine bD (fun h1=> ?_) (fun h1=> ?_)<;>simp only [h1,go_sem]
 ·have e1:j.1<xs.length:=by simp only [decide_eq_true_eq] at h1;omega
  obtain ⟨b,hb,hn⟩:=hx j.1 e1
  simp only [Int.toNat_natCast,hn,bF (n:=b) (by omega),bQ (show j.1<=100000 by omega),go_sem]
  refine ⟨⟨by omega,by omega⟩,hB _ ⟨j.1+1,e1⟩ (by simp only;omega) (Wk.mk [] [] rfl rfl (by simp only [go_sem]) (by simp only [go_sem]) (by simp only [rv,yA,abN,hn,go_sem]))⟩
 ·have e1:j.1=xs.length:=by have:=j.2;simp only [decide_eq_false_iff_not] at h1;omega
  rw [e1]
  exact Fin.bI _ rfl rfl rfl rfl
theorem abO (n:Int):∀ (q k:Nat),k<q->nth (kZ n q) k=[.v (.int .u8 (yx n k))]
 |0,k,h=>absurd h (by omega)
 |q+1,k,h=>by
  by_cases e:k=q
  ·subst e;simp [kZ,nth,uG]
  ·rw [<-abO n q k (by omega)]
   simp [kZ,nth,List.getElem?_append_left,uG,show k<q by omega]
theorem aki (n:Int) (q:Nat):0<=yx n q/\yx n q<=255:=by
 unfold yx
 rw [IntKind.wrap_u8]
 omega
def yB (id:Int):Int:=if 0<=id/\id<=1073741824 then
 bits .xor .i64 ((yA (kZ id 4) 4).fdiv (2 ^ (min 16 64))) (bits .and .i64 (yA (kZ id 4) 4) 65535) else 0
theorem abP (id:Int):Fn Tryz.prog 266 [I id] [] (I (yB id)) [] []:=by
 refine Fn.aO QY (by simp) ?_
 unfold QX SC.mk' yB
 by_cases h1:id<0
 ·simp only [h1,decide_true,if_neg (show ¬ (0<=id/\id<=1073741824) by omega),go_sem]
  exact Fin.bI _ rfl rfl rfl rfl
 by_cases h2:1073741824<id
 ·simp only [h1,h2,decide_true,decide_false,if_neg (show ¬ (0<=id/\id<=1073741824) by omega),go_sem]
  exact Fin.bI _ rfl rfl rfl rfl
 simp only [h1,h2,decide_false,if_pos (show (0<=id/\id<=1073741824) by omega),go_sem]
 refine aQ (akg id (by omega) (by omega)) rfl rfl ?_
 simp only [go_sem]
 have abQ:=akh (kZ id 4) (by rw [uG];omega) (fun k hk=>⟨yx id k,aki id k,abO id 4 k (by rw [uG] at hk;exact hk)⟩)
 rw [uG] at abQ
 refine aQ abQ rfl rfl ?_
 simp only [Int.reduceToNat,go_sem]
 exact ⟨by omega,Fin.bI _ rfl rfl rfl rfl⟩
def JU (l:List Int) (a:Nat):ByteArray:=Vz l (nN l a 4) (nV l a 4).toNat
def VB (l:List Int) (a:Nat):Nat:=ow l (nN l a 4) (nV l a 4).toNat
theorem akj (l:List Int) (a:Nat) (hl:l.length<=4000):Fn Tryz.prog 88 [.ptr 0 0] [dO l a] (.v (.string (JU l a))) [dO l (VB l a)] []:=akf l a hl
def ai.ok (m:ai):Prop:=(1<=m.id/\m.id<=1073741824)/\(0<=m.route/\m.route<=65535)/\(0<=m.epoch/\m.epoch<=1000)/\(0<=m.count/\m.count<=3)/\(m.count<=m.gen/\m.gen<=65536)/\(0<=m.sent/\m.sent<=1000)/\m.body.size<=3
def sN (x lo hi:Int):Bool:=decide (lo<=x)&&decide (x<=hi)
theorem akk (x lo hi:Int):Fn Tryz.prog 422 [I x,I lo,I hi] [] (Bo (sN x lo hi)) [] []:=by
 refine Fn.aO Uo (by simp) ?_
 unfold Un SC.mk'
 simp only [go_sem]
 refine dD (fun h1=> ?_) (fun h1=> ?_)
 ·simp only [h1,go_sem]
  refine Fin.bI _ rfl rfl rfl ?_
  simp only [ay,sN]
  simp_all<;>omega
 ·simp only [h1,go_sem]
  refine Fin.bI _ rfl rfl rfl ?_
  simp only [ay,sN]
  simp_all<;>omega
def ai.good (m:ai):Bool:=sN m.id 1 1073741824&&(sN m.route 0 65535&&(sN m.epoch 0 65536&&(sN m.count 0 8&&(sN m.gen m.count 65536&&sN m.sent 0 1073741824))))
def ai.val (m:ai):Int:=if m.good then (if 16<m.body.size then 2 else 0) else 1
theorem wI (m:ai):Fn Tryz.prog 381 [.agg m.enc] [] (I m.val) [] []:=by
 refine Fn.aO S9 (by simp) ?_
 unfold SY SC.mk' ai.enc
 simp only [go_sem]
 repeat' first
  |(refine dD (fun h1=> ?_) (fun h1=> ?_)<;>simp only [h1,go_sem])
  |(refine bD (fun h1=> ?_) (fun h1=> ?_)<;>simp only [h1,go_sem])
  |(refine aQ (akk _ _ _) rfl rfl ?_;simp only [go_sem])
  |refine Fin.bI _ rfl rfl rfl ?_
 all_goals simp_all [ai.val,ai.good,ay]<;>omega
def bO (ms:List ai):List (List AV):=ms.map ai.enc
theorem jB (ms:List ai):(bO ms).length=ms.length:=by simp [bO]
theorem lZ {ms:List ai} {k:Nat} (h:k<ms.length):nth (bO ms) k=ms[k].enc:=by simp [bO,nth,h]
theorem fV (m:ai):m.enc.length=7:=rfl
theorem akl (m:ai):m.enc.take 7=m.enc:=rfl
theorem akm (m:ai):dA m.enc=true:=rfl
theorem akn (m:ai):pu m.enc=true:=rfl
theorem ako (m:ai):(AV.agg m.enc).pure=true:=rfl
theorem uI (xs ys:List ai):bO (xs++ys)=bO xs++bO ys:=by simp [bO]
theorem yC (xs:List ai) (k:Nat):(bO xs).take k=bO (xs.take k):=by simp [bO,List.map_take]
theorem abR (xs:List ai) (k:Nat):(bO xs).drop k=bO (xs.drop k):=by simp [bO,List.map_drop]
attribute [go_sem] jB fV akl akm akn ako
abbrev fQ (ms:List ai):AV:= .sl 7 (bO ms)
def ids (ms:List ai):List Int:=ms.map ai.id
theorem wJ (ms:List ai):(ids ms).length=ms.length:=by simp [ids]
theorem akp:∀ m:ai,jI [0,0,0,0,0,0,1] m.enc m.enc=some true:=fun m=>by
 simp [jI,ai.enc]
attribute [go_sem] akp
def fB:List ai->Int
 |[]=>0
 |m::ms=>if m.val≠0 then m.val else fB ms
theorem abS {ms:List ai} {k:Nat} (h:k<ms.length) (h0:fB (ms.take k)=0):fB (ms.take (k+1))=ms[k].val/\(ms[k].val≠0->fB ms=ms[k].val):=by
 induction ms generalizing k with
 |nil=>simp at h
 |cons m ms ih=>
  cases k with
  |zero=>simp [fB];exact ⟨fun h=>h.symm,fun h1 h2=>absurd h2 h1⟩
  |succ k=>
   simp only [List.take_succ_cons,fB] at h0 ⊢
   by_cases hm:m.val≠0
   ·rw [if_pos hm] at h0;exact absurd h0 hm
   ·rw [if_neg hm] at h0
    simp only [hm,if_false,List.getElem_cons_succ]
    exact ih (by simpa using h) h0
def MX (xs:List Int):List (Value×AV):=xs.map fun i=>(.int .i64 i,Bo true)
theorem akq (h:List (Nat×Ob)) (S:List (Nat×Nat)) (N:List Nat) (l:List Int):nR h S N (MX l) (MX l)=True:=by
 simp only [eq_iff_iff,iff_true]
 induction l with
 |nil=>simp [MX,nR]
 |cons x l ih=>simp only [MX,List.map_cons,nR,rv,true_and] at ih ⊢;exact ih
attribute [go_sem] akq
def dup (ms:List ai):Bool:= !decide ((ids ms).Nodup)
theorem VD {l:List Int} {k:Nat} (h:k<l.length):(l.take (k+1)).Nodup↔(l.take k).Nodup/\l[k] ∉ l.take k:=by
 rw [List.take_succ_eq_append_getElem h,List.nodup_append]
 constructor
 ·rintro ⟨h1,_,h3⟩
  exact ⟨h1,fun hm=>h3 _ hm _ (by simp) rfl⟩
 ·rintro ⟨h1,h2⟩
  refine ⟨h1,by simp,fun a ha b hb=> ?_⟩
  simp only [List.mem_singleton] at hb
  subst hb
  intro e;subst e;exact h2 ha
theorem abT {ms:List ai} {k:Nat} (h:k<(ids ms).length) (hm:(ids ms)[k] ∈ (ids ms).take k):dup ms=true:=by
 unfold dup
 simp only [Bool.not_eq_true',decide_eq_false_iff_not]
 intro hn
 have h1:((ids ms).take (k+1)).Nodup:=hn.sublist (List.take_sublist _ _)
 exact ((VD h).1 h1).2 hm
def fC (ms:List ai) (x:Int):Int:=if x ∈ ids ms then ((ids ms).idxOf x:Nat) else -1
theorem VE {l:List Int} {x:Int} {k:Nat} (h:k<l.length) (h0:x ∉ l.take k) (h1:l[k]=x):x ∈ l/\l.idxOf x=k:=by
 refine ⟨by rw [<-h1];exact List.getElem_mem h,?_⟩
 have e:l=l.take k++x::l.drop (k+1):=by rw [<-h1];rw [List.getElem_cons_drop,List.take_append_drop]
 rw [e,List.idxOf_append,if_neg h0]
 simp only [List.idxOf_cons_self,Nat.add_zero,List.length_take]
 omega
theorem wK (ms:List ai) (x:Int) (hl:ms.length<=100000):Fn Tryz.prog 382 [fQ ms,I x] [] (I (fC ms x)) [] []:=by
 refine Fn.aO Tc (by simp) ?_
 unfold Ta SC.mk'
 simp only [go_sem]
 refine go_loop (fun j:{j:Nat // j<=ms.length/\x ∉ (ids ms).take j}=>⟨1000,[(0,fQ ms),(1,I x),(5,I j.1)],[]⟩) (fun j=>ms.length - j.1) ⟨0,by omega,by simp⟩
  (Wk.mk [] [] rfl rfl (by simp only [go_sem]) (by simp only [go_sem]) (by simp only [rv,go_sem];try rfl)) ?_
 intro j B hB
 simp only [go_sem]
 refine bD (fun h1=> ?_) (fun h1=> ?_)<;>simp only [h1,go_sem]
 ·have e1:j.1<ms.length:=by simp only [decide_eq_true_eq] at h1;omega
  have e2:j.1<(ids ms).length:=by rw [wJ];exact e1
  have e3:(ids ms)[j.1]=ms[j.1].id:=by simp [ids]
  have hq:0<=(j.1:Int)/\(j.1:Int)<(ms.length:Int):=⟨by omega,by omega⟩
  simp only [Int.toNat_natCast,lZ e1,ai.enc,go_sem]
  refine ⟨hq,bD (fun h2=> ?_) (fun h2=> ?_)⟩<;>simp only [h2,go_sem]
  ·have e4:=VE e2 j.2.2 (e3.trans (by simpa using h2))
   refine Fin.bI _ rfl rfl rfl ?_
   simp only [ay,fC,e4.1,e4.2,if_true]
  ·have e4:ms[j.1].id≠x:=by simpa using h2
   simp only [bQ (show j.1<=100000 by omega),go_sem]
   refine hB _ ⟨j.1+1,e1,?_⟩ (by simp only;omega) (Wk.mk [] [] rfl rfl (by simp only [go_sem]) (by simp only [go_sem]) (by simp only [rv,go_sem]))
   rw [List.take_succ_eq_append_getElem e2,e3]
   simp only [List.mem_append,List.mem_singleton,not_or]
   exact ⟨j.2.2,fun h=>e4 h.symm⟩
 ·have e1:j.1=ms.length:=by have:=j.2.1;simp only [decide_eq_false_iff_not] at h1;omega
  have e2:=j.2.2
  rw [e1,List.take_of_length_le (by rw [wJ];omega)] at e2
  refine Fin.bI _ rfl rfl rfl ?_
  simp only [ay,fC,e2,if_false]
def iF (ms:List ai):Int:=if fB ms≠0 then fB ms else if dup ms then 10 else 0
theorem abU {l:List Int} {x:Int} {k:Nat} (h:x ∈ l.take k):l.idxOf x<k:=by
 have e:l=l.take k++l.drop k:=(List.take_append_drop k l).symm
 rw [e,List.idxOf_append,if_pos h]
 have:=List.idxOf_lt_length_of_mem h
 simp only [List.length_take] at this
 omega
theorem VF (ms:List ai) (hl:ms.length<=100000):Fn Tryz.prog 406 [fQ ms] [] (I (iF ms)) [] []:=by
 refine Fn.aO ajP (by simp) ?_
 unfold TV SC.mk'
 simp only [go_sem]
 refine go_loop (fun j:{j:Nat // j<=ms.length/\fB (ms.take j)=0}=>⟨1000,[(0,fQ ms),(3,I j.1)],[]⟩) (fun j=>ms.length - j.1) ⟨0,by omega,rfl⟩ (Wk.mk [] [] rfl rfl (by simp only [go_sem]) (by simp only [go_sem]) (by simp only [rv,go_sem];try rfl)) ?_
 intro j B hB
 simp only [go_sem]
 refine bD (fun h1=> ?_) (fun h1=> ?_)<;>simp only [h1,go_sem]
 ·have e1:j.1<ms.length:=by simp only [decide_eq_true_eq] at h1;omega
  have e2:=abS e1 j.2.2
  simp only [Int.toNat_natCast,lZ e1,go_sem]
  have hq:0<=(j.1:Int)/\(j.1:Int)<(ms.length:Int):=⟨by omega,by omega⟩
  refine ⟨hq,?_⟩
  refine aQ (wI _) rfl rfl ?_
  simp only [go_sem]
  refine bD (fun h2=> ?_) (fun h2=> ?_)<;>simp only [h2,go_sem]
  ·have e3:ms[j.1].val≠0:=by simpa using h2
   have e4:=e2.2 e3
   refine Fin.bI _ rfl rfl rfl ?_
   simp only [ay,iF,e4,if_pos e3]
  ·have e3:ms[j.1].val=0:=by simpa using h2
   simp only [bQ (show j.1<=100000 by omega),go_sem]
   exact hB _ ⟨j.1+1,e1,e2.1.trans e3⟩ (by simp only;omega) (Wk.mk [] [] rfl rfl (by simp only [go_sem]) (by simp only [go_sem]) (by simp only [rv,go_sem]))
 ·have e1:j.1=ms.length:=by have:=j.2.1;simp only [decide_eq_false_iff_not] at h1;omega
  have e2:fB ms=0:=by have:=j.2.2;rw [e1,List.take_length] at this;exact this
  refine go_loop (fun j:{j:Nat // j<=ms.length/\((ids ms).take j).Nodup}=>⟨2000,[(0,fQ ms),(5,I j.1)],[]⟩) (fun j=>ms.length - j.1) ⟨0,by omega,by simp⟩ (Wk.mk [] [] rfl rfl (by simp only [go_sem]) (by simp only [go_sem]) (by simp only [rv,go_sem];try rfl)) ?_
  intro j B hB
  simp only [go_sem]
  refine bD (fun h1=> ?_) (fun h1=> ?_)<;>simp only [h1,go_sem]
  ·have e1:j.1<ms.length:=by simp only [decide_eq_true_eq] at h1;omega
   have e3:j.1<(ids ms).length:=by rw [wJ];exact e1
   have e4:(ids ms)[j.1]=ms[j.1].id:=by simp [ids]
   have hq:0<=(j.1:Int)/\(j.1:Int)<(ms.length:Int):=⟨by omega,by omega⟩
   have e5:nth (bO ms) j.1=[I ms[j.1].id,I ms[j.1].route,I ms[j.1].epoch,I ms[j.1].count,I ms[j.1].gen,I ms[j.1].sent,.v (.string ms[j.1].body)]:=lZ e1
   simp only [Int.toNat_natCast,e5,go_sem]
   refine ⟨hq,?_⟩
   refine aQ (wK ms _ hl) rfl rfl ?_
   simp only [go_sem]
   refine bD (fun h2=> ?_) (fun h2=> ?_)<;>simp only [h2,go_sem]
   ·have e6:fC ms ms[j.1].id≠j.1:=by simpa using h2
    have e7:(ids ms)[j.1] ∈ (ids ms).take j.1:=by
     by_cases h:(ids ms)[j.1] ∈ (ids ms).take j.1
     ·exact h
     ·have:=VE e3 h rfl
      rw [e4] at this
      exact absurd (by unfold fC;rw [if_pos this.1,this.2]) e6
    refine Fin.bI _ rfl rfl rfl ?_
    simp only [ay,iF,e2,abT e3 e7,ne_eq,not_true_eq_false,if_false,if_true]
   ·have e6:fC ms ms[j.1].id=j.1:=by simpa using h2
    have e7:(ids ms)[j.1] ∉ (ids ms).take j.1:=by
     intro h
     have h3:=abU h
     rw [e4] at h3
     unfold fC at e6
     rw [if_pos (by rw [<-e4];exact List.getElem_mem e3)] at e6
     omega
    simp only [bQ (show j.1<=100000 by omega),go_sem]
    exact hB _ ⟨j.1+1,e1,(VD e3).2 ⟨j.2.2,e7⟩⟩ (by simp only;omega) (Wk.mk [] [] rfl rfl (by simp only [go_sem]) (by simp only [go_sem]) (by simp only [rv,go_sem]))
  ·have e1:j.1=ms.length:=by have:=j.2.1;simp only [decide_eq_false_iff_not] at h1;omega
   have e3:=j.2.2
   rw [e1,List.take_of_length_le (by rw [wJ];omega)] at e3
   have e4:dup ms=false:=by simp [dup,e3]
   refine Fin.bI _ rfl rfl rfl ?_
   simp only [ay,iF,e2,e4]
   rfl
def iA (c:Int) (ms:List ai):Int:=if c<1 then 1 else if 24<c then 1 else if c<ms.length then 2 else iF ms
theorem JV (c:Int) (ms:List ai) (hl:ms.length<=100000):Fn Tryz.prog 394 [.agg [I c,fQ ms]] [] (I (iA c ms)) [] []:=by
 refine Fn.aO ajM (by simp) ?_
 unfold TA SC.mk' iA
 simp only [go_sem]
 by_cases h1:c<1
 ·simp only [h1,decide_true,if_true,go_sem]
  exact Fin.bI _ rfl rfl rfl rfl
 by_cases h2:24<c
 ·simp only [h1,h2,decide_true,decide_false,if_true,if_false,go_sem]
  exact Fin.bI _ rfl rfl rfl rfl
 by_cases h3:c<ms.length
 ·simp only [h1,h2,h3,decide_true,decide_false,if_true,if_false,go_sem]
  exact Fin.bI _ rfl rfl rfl rfl
 simp only [h1,h2,h3,decide_false,if_false,go_sem]
 refine aQ (VF ms hl) rfl rfl ?_
 simp only [go_sem]
 exact Fin.bI _ rfl rfl rfl rfl
def yD (c:Int) (ms:List ai):Int:=if iA c ms≠0 then 0 else c - ms.length
theorem Dq {c:Int} {ms:List ai} (h:iA c ms=0):1<=c/\c<=24/\(ms.length:Int)<=c/\fB ms=0/\dup ms=false:=by
 unfold iA iF at h
 repeat' split at h
 all_goals simp_all
 all_goals omega
theorem abV (c:Int) (ms:List ai) (hl:ms.length<=100000):Fn Tryz.prog 360 [.agg [I c,fQ ms]] [] (I (yD c ms)) [] []:=by
 refine Fn.aO ajE (by simp) ?_
 unfold SV SC.mk'
 simp only [go_sem]
 refine aQ (JV c ms hl) rfl rfl ?_
 simp only [go_sem]
 refine bD (fun h1=> ?_) (fun h1=> ?_)<;>simp only [h1,go_sem]
 ·refine Fin.bI _ rfl rfl rfl ?_
  have e:iA c ms≠0:=by simpa using h1
  simp only [ay,yD,if_pos e]
 ·have e:iA c ms=0:=by simpa using h1
  have e2:=Dq e
  refine Fin.bI _ rfl rfl rfl ?_
  simp only [ay,yD,e,bF (n:=c - ms.length) (by omega),ne_eq,not_true_eq_false,if_false]
abbrev jT (c:Int) (ms:List ai):AV:= .agg [I c,fQ ms]
def VG (k:Int):AV:=if k<1 then .aG [jT 0 [],I 1] else if 24<k then .aG [jT 0 [],I 1] else .aG [jT k [],I 0]
theorem akr (k:Int):Fn Tryz.prog 94 [I k] [] (VG k) [] []:=by
 refine Fn.aO JK (by simp) ?_
 unfold Qt SC.mk' VG
 simp only [go_sem]
 by_cases h1:k<1
 ·simp only [h1,decide_true,if_true,go_sem]
  exact Fin.aD _ rfl rfl (by simp only [ay,rv,au,bO,List.map_nil,go_sem])
 by_cases h2:24<k
 ·simp only [h1,h2,decide_true,decide_false,if_true,if_false,go_sem]
  exact Fin.aD _ rfl rfl (by simp only [ay,rv,au,bO,List.map_nil,go_sem])
 simp only [h1,h2,decide_false,if_false,go_sem]
 exact Fin.aD _ rfl rfl (by simp only [ay,rv,au,bO,List.map_nil,go_sem])
def wL (c:Int) (ms:List ai) (ep:Int):Int:=if iA c ms≠0 then iA c ms else if ep<0 then 1 else if 65536<ep then 1 else 0
theorem sO (m:ai) (ep:Int):Fn Tryz.prog 395 [.agg m.enc,I ep] [] (Bo (decide (m.epoch<ep))) [] []:=by
 refine Fn.aO TD (by simp) ?_
 unfold TB SC.mk' ai.enc
 simp only [go_sem]
 exact Fin.bI _ rfl rfl rfl rfl
def zM:ai:=⟨0,0,0,0,0,0,⟨#[]⟩⟩
def gt (l:List ai) (k:Nat):ai:=l[k]?.getD zM
theorem Dr {l:List ai} {k:Nat} (h:k<l.length):gt l k=l[k]:=by simp [gt,h]
theorem MZ {l:List ai} {k:Nat} (h:l.length<=k):gt l k=zM:=by simp [gt,List.getElem?_eq_none h]
theorem abW {n h i:Nat} (hi:i<n) (hh:h<n):((h+i) % n+n - h) % n=i:=by
 by_cases e:h+i<n
 ·rw [Nat.mod_eq_of_lt e,show h+i+n - h=i+n by omega,Nat.add_mod_right,Nat.mod_eq_of_lt hi]
 ·rw [show (h+i) % n=h+i - n by rw [Nat.mod_eq_sub_mod (by omega),Nat.mod_eq_of_lt (by omega)],show h+i - n+n - h=i by omega,Nat.mod_eq_of_lt hi]
theorem abX {n h p:Nat} (hp:p<n) (hh:h<n):(h+(p+n - h) % n) % n=p:=by
 by_cases e:h<=p
 ·rw [show p+n - h=(p - h)+n by omega,Nat.add_mod_right,Nat.mod_eq_of_lt (show p - h<n by omega),show h+(p - h)=p by omega,Nat.mod_eq_of_lt hp]
 ·rw [Nat.mod_eq_of_lt (show p+n - h<n by omega),show h+(p+n - h)=p+n by omega,Nat.add_mod_right,Nat.mod_eq_of_lt hp]
theorem abY {n h p:Nat} (hp:p<n):(p+n - h) % n<n:=Nat.mod_lt _ (by omega)
def lI (n h:Nat) (f:Nat->ai):List ai:=(List.range n).map fun p=>f ((p+n - h) % n)
theorem yE (n h:Nat) (f:Nat->ai):(lI n h f).length=n:=by simp [lI]
theorem M0 {n h:Nat} {f:Nat->ai} {p:Nat} (hp:p<(lI n h f).length):(lI n h f)[p]=f ((p+n - h) % n):=by simp [lI]
theorem aks {n h i:Nat} (f:Nat->ai) (hi:i<n) (hh:h<n):gt (lI n h f) ((h+i) % n)=f i:=by
 have hlt:(h+i) % n<(lI n h f).length:=by rw [yE];exact Nat.mod_lt _ (by omega)
 rw [Dr hlt,M0,abW hi hh]
theorem akt {n h:Nat} {f g:Nat->ai} (e:∀ k,k<n->f k=g k):lI n h f=lI n h g:=by
 refine List.map_congr_left fun p hp=> ?_
 exact e _ (abY (List.mem_range.1 hp))
theorem aku {n h i:Nat} (f:Nat->ai) (x:ai) (hi:i<n) (hh:h<n):(lI n h f).set ((h+i) % n) x=lI n h (fun k=>if k=i then x else f k):=by
 refine List.ext_getElem (by simp [yE]) fun p h1 h2=> ?_
 rw [List.getElem_set,M0 h2]
 simp only [yE] at h2
 by_cases e:(h+i) % n=p
 ·rw [if_pos e,if_pos (by rw [<-e];exact abW hi hh)]
 ·rw [if_neg e,M0,if_neg]
  intro e2
  rw [<-e2,abX h2 hh] at e
  exact e rfl
def eP (n h:Nat) (l:List ai):List ai:=lI n h (gt l)
theorem fG (n h:Nat) (l:List ai):(eP n h l).length=n:=yE ..
theorem VH {n h i:Nat} (l:List ai) (hi:i<n) (hh:h<n):gt (eP n h l) ((h+i) % n)=gt l i:=aks _ hi hh
theorem abZ {n h i:Nat} (l:List ai) (hi:i<n) (hh:h<n):nth (bO (eP n h l)) ((h+i) % n)=(gt l i).enc:=by
 have hlt:(h+i) % n<(eP n h l).length:=by rw [fG];exact Nat.mod_lt _ (by omega)
 rw [lZ hlt,<-Dr hlt,VH l hi hh]
theorem ab0 (l:List ai) (k:Nat) (m:ai):(bO l).set k m.enc=bO (l.set k m):=by simp [bO,List.map_set]
theorem akv {n h i:Nat} {l l':List ai} {x:ai} (hi:i<n) (hh:h<n) (e:∀ k,k<n->gt l' k=if k=i then x else gt l k):(eP n h l).set ((h+i) % n) x=eP n h l':=by
 unfold eP
 rw [aku _ _ hi hh]
 exact akt fun k hk=>(e k hk).symm
theorem akw {n h:Nat} {l:List ai} (x:ai) (hl:l.length<n) (hh:h<n):(eP n h l).set ((h+l.length) % n) x=eP n h (l++[x]):=by
 refine akv hl hh fun k hk=> ?_
 by_cases e:k=l.length
 ·subst e;simp [gt]
 ·rw [if_neg e]
  by_cases e2:k<l.length
  ·simp [gt,List.getElem?_append_left e2]
  ·rw [MZ (by simp;omega),MZ (by omega)]
theorem VI (n h:Nat):eP n h []=List.replicate n zM:=by
 refine List.ext_getElem (by simp [fG]) fun p h1 h2=> ?_
 simp [eP,lI,gt]
abbrev jC (cs:List ai) (h s:Int):AV:= .agg [fQ cs,I h,I s]
abbrev Dt (n h:Nat) (l:List ai):AV:=jC (eP n h l) h l.length
def fD (cs:List ai) (h s:Nat):List ai:=(List.range s).map fun i=>gt cs ((h+i) % cs.length)
theorem wM (cs:List ai) (h s:Nat):(fD cs h s).length=s:=by simp [fD]
theorem uJ {n h:Nat} {l:List ai} (hl:l.length<=n) (hh:h<n):fD (eP n h l) h l.length=l:=by
 refine List.ext_getElem (by simp [fD]) fun i h1 h2=> ?_
 simp only [fD,List.getElem_map,List.getElem_range,fG]
 rw [VH l (by omega) hh,Dr h2]
theorem akx {cs:List ai} {h s:Nat} (hh:h<cs.length) (hs:s<=cs.length) (hz:∀ i,s<=i->i<cs.length->gt cs ((h+i) % cs.length)=zM):eP cs.length h (fD cs h s)=cs:=by
 refine List.ext_getElem (by rw [fG]) fun p h1 h2=> ?_
 have e0:(eP cs.length h (fD cs h s))[p]=gt (fD cs h s) ((p+cs.length - h) % cs.length):=M0 (f:=gt (fD cs h s)) (by rw [yE];exact h2)
 rw [e0]
 have e1:=abX h2 hh
 have h3:=abY (h:=h) h2
 generalize (p+cs.length - h) % cs.length=k at e1 h3 ⊢
 rw [<-Dr h2]
 by_cases e:k<s
 ·simp [gt,fD,e,e1]
 ·rw [MZ (by rw [wM];omega),<-e1,hz k (by omega) h3]
attribute [local go_sem] Int.cast_ofNat_Int Int.reduceBEq Int.reduceLT Int.reduceLE Int.reduceSub Int.reduceAdd Int.reduceNeg Int.reduceEq Int.reduceToNat decide_true decide_false decide_eq_true_eq beq_self_eq_true bne_self_eq_false List.reduceReplicate List.length_set List.length_replicate List.length_cons List.length_nil List.set_cons_zero List.set_cons_succ Int.toNat_natCast
theorem JW {n a:Nat} (h:a<=100000) (h':n<=100000):IntKind.i64.wrap ((a:Int)+(n:Int))=((a+n:Nat):Int):=by rw [bF (by omega)];omega
theorem tmN (a m:Nat):((a:Nat):Int).tmod ((m:Nat):Int)=((a % m:Nat):Int):=rfl
theorem akz:IntKind.i64.wrap 0=0:=rfl
theorem akA (n:Nat):decide ((n:Int)<0)=false:=by simp
theorem akB:kills []=[]:=rfl
theorem akC (b:Nat) (Z:List Nat):kills (b::Z)=(b,Ob.dead)::kills Z:=rfl
attribute [go_sem] akz akA akB akC tmN
theorem Du (m:ai):bO [m]=[m.enc]:=rfl
theorem Fin.yF {res:List iE} {r:AV} {t:List (Nat×AV)} {h:List (Nat×Ob)} {e:TypeId} {sz:Nat} {xs:List (List AV)} (b:Nat) (vs:List AV) (h1:iZ t h res=some vs) (hb:get h b=some (.row e sz xs))
 (h2:iD h [(4,b)] [] [(4,.row e sz xs)]=true) (h3:rv h [(4,b)] [] r (ay vs)):Fin res r [] [.row e sz xs] t h:=by
 have e:outs [] [.row e sz xs]=[(4,.row e sz xs)]:=rfl
 refine ⟨[(4,b)],[],vs,h1,by rw [e];exact h2,?_,by simp only [gY],h3⟩
 rw [e]
 simp only [cO,get,if_true,hb,and_true,bK,and_self]
theorem Dv {P:Program} {f:FuncId} {xs ys:List AV} {r:AV} {nm:Nat} {h:List (Nat×Ob)} {k:List It} {Q:Exit->St->Prop} {n n':Nat} {t:List (Nat×AV)} {d:Option Nat} {l:List aH}
 (hF:Fn P f xs [] r [] []) (ha:au h [] [] xs ys) (hr:r.pure=true) (hn:na r=true) (hk:go P (.ops (nm+8) n' l::k) Q n (bP t d r) h):nW P nm f ys d n' l k Q n t h:=
 xP (hF.Za ha hr hn) (by simpa using hk)
theorem akD (cs:List ai) (h j:Nat):fD cs h (j+1)=fD cs h j++[gt cs ((h+j) % cs.length)]:=by
 simp [fD,List.range_succ]
theorem VJ {cs:List ai} {k:Nat} (h:k<cs.length):nth (bO cs) k=(gt cs k).enc:=by rw [lZ h,Dr h]
theorem akE (bs:List (List AV)) (gs:List Ob):outs bs gs=dB 0 (bs.map .box)++dB 4 gs:=rfl
attribute [go_sem] akE dB
end Go.Eng
namespace Go.Eng
open Go Go.Proofs
attribute [local go_sem] Int.cast_ofNat_Int Int.reduceBEq Int.reduceLT Int.reduceLE Int.reduceSub Int.reduceAdd Int.reduceNeg Int.reduceEq Int.reduceToNat decide_true decide_false decide_eq_true_eq beq_self_eq_true bne_self_eq_false List.reduceReplicate List.length_set List.length_replicate List.length_cons List.length_nil List.set_cons_zero List.set_cons_succ Int.toNat_natCast
def eqv (a b:ai):Bool:=(a.id==b.id)&&((a.route==b.route)&&((a.epoch==b.epoch)&&((a.count==b.count)&&((a.gen==b.gen)&&((a.sent==b.sent)&&((a.body.toList==b.body.toList)&&true))))))
theorem akF (a b:ai):jI [0,0,0,0,0,0,1] a.enc b.enc=some (eqv a b):=by
 simp only [jI,ai.enc,if_true,eqv]
theorem akG (a:ai):jI [0,0,0,0,0,0,1] a.enc [.v (.int .i64 0),.v (.int .i64 0),.v (.int .i64 0),.v (.int .i64 0),.v (.int .i64 0),.v (.int .i64 0),.v (.string ⟨#[]⟩)]=some (eqv a zM):=akF a zM
theorem akH (a:ai):eqv a a=true:=by simp [eqv]
theorem VK (s:ByteArray) (i:Nat) (r:List UInt8):(ByteArray.toList.loop s i r).length=r.length+(s.size - i):=by
 unfold ByteArray.toList.loop
 split
 ·rename_i h
  rw [VK s (i+1)]
  simp
  omega
 ·simp
  omega
termination_by s.size - i
theorem akI {a:ai} (h:eqv a zM=true):a=zM:=by
 obtain ⟨a1,a2,a3,a4,a5,a6,a7⟩:=a
 simp only [eqv,zM,Bool.and_eq_true,beq_iff_eq,and_true] at h
 obtain ⟨h1,h2,h3,h4,h5,h6,h7⟩:=h
 subst h1 h2 h3 h4 h5 h6
 have e:a7.toList.length=0:=by
  rw [h7]
  have:=VK ⟨#[]⟩ 0 []
  unfold ByteArray.toList
  rw [this]
  rfl
 have e2:a7.size=0:=by
  have:=VK a7 0 []
  unfold ByteArray.toList at e
  simp at this
  omega
 have:a7=⟨#[]⟩:=by
  obtain ⟨d⟩:=a7
  have:d.size=0:=e2
  rw [Array.size_eq_zero_iff] at this
  rw [this]
 rw [this]
 rfl
attribute [go_sem] akG
def qb (cs:List ai) (h s:Int):Bool:=decide (1<=cs.length)&&(decide (cs.length<=12)&&(decide (0<=h)&&(decide (h<cs.length)&&(decide (0<=s)&&decide (s<=cs.length)))))
def yG (cs:List ai) (h s:Nat):Bool:=(List.range cs.length).all fun i=>decide (i<s)||eqv (gt cs ((h+i) % cs.length)) zM
def eZ (cs:List ai) (h s:Int):Int:=if qb cs h s=false then 1 else if yG cs h.toNat s.toNat=false then 7 else iF (fD cs h.toNat s.toNat)
structure arU (ms:List ai) where
 j:Nat
 es:List Int
 b:Bool
 hj:j<=ms.length
 inv:fB (ms.take j)=0
 mem:∀ x,x ∈ es↔x ∈ (ids ms).take j
 hb:b= !decide (((ids ms).take j).Nodup)
theorem akJ {cs:List ai} {h s:Int} (e:eZ cs h s=0):∃ (h':Nat) (l:List ai),h=h'/\s=(l.length:Int)/\cs=eP cs.length h' l/\1<=cs.length/\cs.length<=12/\h'<cs.length/\l.length<=cs.length/\iF l=0/\l=fD cs h' l.length:=by
 unfold eZ at e
 split at e
 ·cases e
 ·rename_i h1
  split at e
  ·cases e
  ·rename_i h2
   simp only [Bool.not_eq_false] at h1 h2
   simp only [qb,Bool.and_eq_true,decide_eq_true_eq] at h1
   simp only [yG,List.all_eq_true,List.mem_range,Bool.or_eq_true,decide_eq_true_eq] at h2
   refine ⟨h.toNat,fD cs h.toNat s.toNat,by omega,by rw [wM];omega,?_,by omega,by omega,by omega,by rw [wM];omega,e,by rw [wM]⟩
   refine (akx (by omega) (by omega) fun i hi hn=> ?_).symm
   rcases h2 i hn with h3|h3
   ·omega
   ·exact akI h3
structure Rg (n h:Nat) (l:List ai):Prop where
 n1:1<=n
 n2:n<=12
 hh:h<n
 ll:l.length<=n
 snd:iF l=0
theorem Rg.ok {n h:Nat} {l:List ai} (r:Rg n h l):eZ (eP n h l) h l.length=0:=by
 have:=r.n1;have:=r.n2;have:=r.hh;have:=r.ll
 unfold eZ
 rw [if_neg (by simp [qb,fG];omega),if_neg]
 ·rw [Int.toNat_natCast,Int.toNat_natCast,uJ r.ll r.hh];exact r.snd
 ·simp only [Bool.not_eq_false,yG,List.all_eq_true,List.mem_range,Bool.or_eq_true,decide_eq_true_eq,fG,Int.toNat_natCast]
  intro i hi
  by_cases h1:i<l.length
  ·exact .inl h1
  ·right
   rw [VH l hi r.hh,MZ (by omega)]
   exact akH _
def yH (cs:List ai) (h s:Int):List ai:=if eZ cs h s≠0 then [] else fD cs h.toNat s.toNat
end Go.Eng
namespace Go.Eng
open Go Go.Proofs
attribute [local go_sem] Int.cast_ofNat_Int Int.reduceBEq Int.reduceLT Int.reduceLE Int.reduceSub Int.reduceAdd Int.reduceNeg Int.reduceEq Int.reduceToNat decide_true decide_false decide_eq_true_eq beq_self_eq_true bne_self_eq_false List.reduceReplicate List.length_set List.length_replicate List.length_cons List.length_nil List.set_cons_zero List.set_cons_succ Int.toNat_natCast
theorem akK {P:Program} {f:FuncId} {xs ys:List AV} {r:AV} {nm:Nat} {h:List (Nat×Ob)} {k:List It} {Q:Exit->St->Prop} {n n':Nat} {t:List (Nat×AV)} {d:Option Nat} {l ops:List aH} {acc:List bR}
 (hF:Fn P f xs [] r [] []) (ha:au h [] [] xs ys) (hr:r.pure=true) (hn:na r=true) (hk:go P (.dh (nm+8) n' l ops ((dF ys,[])::acc)::k) Q n (bP t d r) h):nY P nm f ys d n' l ops acc k Q n t h:=
 xQ (hF.Za ha hr hn) (by simpa using hk)
theorem qc (cs:List ai):(bO cs).take cs.length=bO cs:=by rw [<-jB,List.take_length]
theorem VN (n h:Nat) (l:List ai):(bO (eP n h l)).take n=bO (eP n h l):=by have:=qc (eP n h l);rwa [fG] at this
theorem akL (m:ai):m.enc.drop 7=[]:=rfl
theorem akM (h:List (Nat×Ob)) (S:List (Nat×Nat)) (N:List Nat) (m:ai):au h S N m.enc m.enc:=vM _ rfl
attribute [go_sem] qc VN fG akL akM
theorem yI {cs:List ai} {h s:Int} (e:eZ cs h s=0):∃ (n h':Nat) (l:List ai),Rg n h' l/\cs=eP n h' l/\h=h'/\s=(l.length:Int):=by
 obtain ⟨h',l,h1,h2,h3,h4,h5,h6,h7,h8,_⟩:=akJ e
 exact ⟨cs.length,h',l,⟨h4,h5,h6,h7,h8⟩,h3,h1,h2⟩
def kC (cs:List ai) (h s:Int) (m:ai):Int:=
 if eZ cs h s≠0 then eZ cs h s else if m.val≠0 then m.val else if s=cs.length then 3 else if 0<=fC (fD cs h.toNat s.toNat) m.id then 10 else 0
def newR (k:Int):AV:=if k<1 then .aG [jC [] 0 0,I 1] else if 12<k then .aG [jC [] 0 0,I 1] else .aG [Dt k.toNat 0 [],I 0]
def M4 (cs:List ai) (h s:Int) (m:ai):AV:=if kC cs h s m≠0 then .aG [jC [] 0 0,I (kC cs h s m)] else .aG [Dt cs.length h.toNat (fD cs h.toNat s.toNat++[m]),I 0]
def M5 (cs:List ai) (h s:Int) (m:ai):AV:=if kC cs h s m≠0 then .aG [jC [] 0 0,I (kC cs h s m)] else .aG [Dt cs.length ((h.toNat+(cs.length - 1)) % cs.length) (m::fD cs h.toNat s.toNat),I 0]
theorem VO {cs:List ai} {h s:Int} {m:ai} (e:kC cs h s m=0):eZ cs h s=0/\s≠cs.length/\m.val=0/\¬ 0<=fC (fD cs h.toNat s.toNat) m.id:=by
 unfold kC at e
 by_cases h1:eZ cs h s=0
 ·by_cases h2:m.val=0
  ·by_cases h3:s=cs.length
   ·rw [if_neg (by simp [h1]),if_neg (by simp [h2]),if_pos h3] at e;cases e
   ·rw [if_neg (by simp [h1]),if_neg (by simp [h2]),if_neg h3] at e
    by_cases h4:0<=fC (fD cs h.toNat s.toNat) m.id
    ·rw [if_pos h4] at e;cases e
    ·exact ⟨h1,h3,h2,h4⟩
  ·rw [if_neg (by simp [h1]),if_pos h2] at e;exact absurd e h2
 ·rw [if_pos h1] at e;exact absurd e h1
end Go.Eng
namespace Go.Eng
open Go Go.Proofs
attribute [local go_sem] Int.cast_ofNat_Int Int.reduceBEq Int.reduceLT Int.reduceLE Int.reduceSub Int.reduceAdd Int.reduceNeg Int.reduceEq Int.reduceToNat decide_true decide_false decide_eq_true_eq beq_self_eq_true bne_self_eq_false List.reduceReplicate List.length_set List.length_replicate List.length_cons List.length_nil List.set_cons_zero List.set_cons_succ Int.toNat_natCast
theorem akN (n h:Nat) (f:Nat->ai):(bO (lI n h f)).take n=bO (lI n h f):=by have:=qc (lI n h f);rwa [yE] at this
attribute [go_sem] akN yE
abbrev Z':AV:= .v (.int .i64 0)
def M6 (cs:List ai) (h s id:Int):AV:=
 if eZ cs h s≠0 then .aG [jC [] 0 0,.agg zM.enc,I (eZ cs h s)] else if fC (fD cs h.toNat s.toNat) id<0 then .aG [jC [] 0 0,.agg zM.enc,I 4]
 else .aG [Dt cs.length h.toNat ((fD cs h.toNat s.toNat).eraseIdx (fC (fD cs h.toNat s.toNat) id).toNat),.agg (gt (fD cs h.toNat s.toNat) (fC (fD cs h.toNat s.toNat) id).toNat).enc,I 0]
theorem akO {l:List ai} {x:Int} (h:¬ fC l x<0):(fC l x).toNat<l.length/\(gt l (fC l x).toNat).id=x/\fC l x=((fC l x).toNat:Nat):=by
 unfold fC at h ⊢
 split at h
 ·rename_i hm
  have h1:=List.idxOf_lt_length_of_mem hm
  rw [if_pos hm,Int.toNat_natCast]
  rw [wJ] at h1
  refine ⟨h1,?_,rfl⟩
  rw [Dr h1]
  have h2:(ids l)[(ids l).idxOf x]'(by rw [wJ];exact h1)=l[(ids l).idxOf x].id:=by
   generalize hk:(ids l).idxOf x=k at h1 ⊢
   simp only [ids,List.getElem_map]
  rw [<-h2]
  exact List.getElem_idxOf _
 ·omega
end Go.Eng
