/-
  Part of a proof: lemmas and definitions of this work.
  No condition.
-/
import Derived.Test.YtmhaehngejengaaGreatA12
import Derived.Test.YtmhaehngejengaaGreatA13
set_option linter.all false
set_option maxRecDepth 100000
set_option maxHeartbeats 8000000
namespace Go.Eng
open Go Go.Proofs
def bP (ms:List ai):List (List AV):=ms.map ai.enc
theorem jT (ms:List ai):(bP ms).length=ms.length:=by simp [bP]
theorem ny {ms:List ai} {k:Nat} (h:k<ms.length):nth (bP ms) k=ms[k].enc:=by simp [bP,nth,h]
theorem iD (m:ai):m.enc.length=7:=rfl
theorem alq (m:ai):m.enc.take 7=m.enc:=rfl
theorem alr (m:ai):dM m.enc=true:=rfl
theorem als (m:ai):qN m.enc=true:=rfl
theorem alu (m:ai):(AV.agg m.enc).pure=true:=rfl
theorem wM (xs ys:List ai):bP (xs++ys)=bP xs++bP ys:=by simp [bP]
theorem Ai (xs:List ai) (k:Nat):(bP xs).take k=bP (xs.take k):=by simp [bP,List.map_take]
theorem abb (xs:List ai) (k:Nat):(bP xs).drop k=bP (xs.drop k):=by simp [bP,List.map_drop]
attribute [go_sem] jT iD alq alr als alu
abbrev iq (ms:List ai):AV:= .sl 7 (bP ms)
def ids (ms:List ai):List Int:=ms.map ai.id
theorem yH (ms:List ai):(ids ms).length=ms.length:=by simp [ids]
theorem alv:∀ m:ai,ku [0,0,0,0,0,0,1] m.enc m.enc=some true:=fun m=>by
 simp [ku,ai.enc]
attribute [go_sem] alv
def gy:List ai→Int
 |[]=>0
 |m::ms=>if m.val≠0 then m.val else gy ms
theorem abd {ms:List ai} {k:Nat} (h:k<ms.length) (h0:gy (ms.take k)=0):gy (ms.take (k+1))=ms[k].val∧(ms[k].val≠0→gy ms=ms[k].val):=by
 induction ms generalizing k with
 |nil=>simp at h
 |cons m ms ih=>
  cases k with
  |zero=>simp [gy];exact ⟨fun h=>h.symm,fun h1 h2=>absurd h2 h1⟩
  |succ k=>
   simp only [List.take_succ_cons,gy] at h0 ⊢
   by_cases hm:m.val≠0
   ·rw [if_pos hm] at h0;exact absurd h0 hm
   ·rw [if_neg hm] at h0
    simp only [hm,if_false,List.getElem_cons_succ]
    exact ih (by simpa using h) h0
def NV (xs:List Int):List (Value×AV):=xs.map fun i=>(.int .i64 i,Bo true)
theorem alx (h:List (Nat×Ob)) (S:List (Nat×Nat)) (N:List Nat) (l:List Int):pJ h S N (NV l) (NV l)=True:=by
 simp only [eq_iff_iff,iff_true]
 induction l with
 |nil=>simp [NV,pJ]
 |cons x l ih=>simp only [NV,List.map_cons,pJ,rv,true_and] at ih ⊢;exact ih
attribute [go_sem] alx
def dup (ms:List ai):Bool:= !decide ((ids ms).Nodup)
theorem Ws {l:List Int} {k:Nat} (h:k<l.length):(l.take (k+1)).Nodup↔(l.take k).Nodup∧l[k] ∉ l.take k:=by
 rw [List.take_succ_eq_append_getElem h,List.nodup_append]
 constructor
 ·rintro ⟨h1,_,h3⟩
  exact ⟨h1,fun hm=>h3 _ hm _ (by simp) rfl⟩
 ·rintro ⟨h1,h2⟩
  refine ⟨h1,by simp,fun a ha b hb=> ?_⟩
  simp only [List.mem_singleton] at hb
  subst hb
  intro e;subst e;exact h2 ha
theorem abe {ms:List ai} {k:Nat} (h:k<(ids ms).length) (hm:(ids ms)[k] ∈ (ids ms).take k):dup ms=true:=by
 unfold dup
 simp only [Bool.not_eq_true',decide_eq_false_iff_not]
 intro hn
 have h1:((ids ms).take (k+1)).Nodup:=hn.sublist (List.take_sublist _ _)
 exact ((Ws h).1 h1).2 hm
def gG (ms:List ai) (x:Int):Int:=if x ∈ ids ms then ((ids ms).idxOf x:Nat) else -1
theorem Wu {l:List Int} {x:Int} {k:Nat} (h:k<l.length) (h0:x ∉ l.take k) (h1:l[k]=x):x ∈ l∧l.idxOf x=k:=by
 refine ⟨by rw [←h1];exact List.getElem_mem h,?_⟩
 have e:l=l.take k++x::l.drop (k+1):=by rw [←h1];rw [List.getElem_cons_drop,List.take_append_drop]
 rw [e,List.idxOf_append,if_neg h0]
 simp only [List.idxOf_cons_self,Nat.add_zero,List.length_take]
 omega
theorem yI (ms:List ai) (x:Int) (hl:ms.length≤100000):Fn Tryz.prog 477 [iq ms,I x] [] (I (gG ms x)) [] []:=by
 refine Fn.aN aj1 (by simp) ?_
 unfold UU SC.mk'
 simp only [go_sem]
 refine go_loop (fun j:{j:Nat // j≤ms.length∧x ∉ (ids ms).take j}=>⟨1000,[(0,iq ms),(1,I x),(5,I j.1)],[]⟩) (fun j=>ms.length - j.1) ⟨0,by omega,by simp⟩
  (Wk.mk [] [] rfl rfl (by simp only [go_sem]) (by simp only [go_sem]) (by simp only [rv,go_sem];try rfl)) ?_
 intro j B hB
 simp only [go_sem]
 refine bF (fun h1=> ?_) (fun h1=> ?_)<;>simp only [h1,go_sem]
 ·have e1:j.1<ms.length:=by simp only [decide_eq_true_eq] at h1;omega
  have e2:j.1<(ids ms).length:=by rw [yH];exact e1
  have e3:(ids ms)[j.1]=ms[j.1].id:=by simp [ids]
  have hq:0≤(j.1:Int)∧(j.1:Int)<(ms.length:Int):=⟨by omega,by omega⟩
  simp only [Int.toNat_natCast,ny e1,ai.enc,go_sem]
  refine ⟨hq,bF (fun h2=> ?_) (fun h2=> ?_)⟩<;>simp only [h2,go_sem]
  ·have e4:=Wu e2 j.2.2 (e3.trans (by simpa using h2))
   refine Fin.bQ _ rfl rfl rfl ?_
   simp only [ay,gG,e4.1,e4.2,if_true]
  ·have e4:ms[j.1].id≠x:=by simpa using h2
   simp only [cZ (show j.1≤100000 by omega),go_sem]
   refine hB _ ⟨j.1+1,e1,?_⟩ (by simp only;omega) (Wk.mk [] [] rfl rfl (by simp only [go_sem]) (by simp only [go_sem]) (by simp only [rv,go_sem]))
   rw [List.take_succ_eq_append_getElem e2,e3]
   simp only [List.mem_append,List.mem_singleton,not_or]
   exact ⟨j.2.2,fun h=>e4 h.symm⟩
 ·have e1:j.1=ms.length:=by have:=j.2.1;simp only [decide_eq_false_iff_not] at h1;omega
  have e2:=j.2.2
  rw [e1,List.take_of_length_le (by rw [yH];omega)] at e2
  refine Fin.bQ _ rfl rfl rfl ?_
  simp only [ay,gG,e2,if_false]
end Go.Eng
namespace Go.Eng
open Go Go.Proofs
def jf (ms:List ai):Int:=if gy ms≠0 then gy ms else if dup ms then 10 else 0
theorem abf {l:List Int} {x:Int} {k:Nat} (h:x ∈ l.take k):l.idxOf x<k:=by
 have e:l=l.take k++l.drop k:=(List.take_append_drop k l).symm
 rw [e,List.idxOf_append,if_pos h]
 have:=List.idxOf_lt_length_of_mem h
 simp only [List.length_take] at this
 omega
theorem Wv (ms:List ai) (hl:ms.length≤100000):Fn Tryz.prog 501 [iq ms] [] (I (jf ms)) [] []:=by
 refine Fn.aN aks (by simp) ?_
 unfold Vp SC.mk'
 simp only [go_sem]
 refine go_loop (fun j:{j:Nat // j≤ms.length∧gy (ms.take j)=0}=>⟨1000,[(0,iq ms),(3,I j.1)],[]⟩) (fun j=>ms.length - j.1) ⟨0,by omega,rfl⟩ (Wk.mk [] [] rfl rfl (by simp only [go_sem]) (by simp only [go_sem]) (by simp only [rv,go_sem];try rfl)) ?_
 intro j B hB
 simp only [go_sem]
 refine bF (fun h1=> ?_) (fun h1=> ?_)<;>simp only [h1,go_sem]
 ·have e1:j.1<ms.length:=by simp only [decide_eq_true_eq] at h1;omega
  have e2:=abd e1 j.2.2
  simp only [Int.toNat_natCast,ny e1,go_sem]
  have hq:0≤(j.1:Int)∧(j.1:Int)<(ms.length:Int):=⟨by omega,by omega⟩
  refine ⟨hq,?_⟩
  refine aO (yG _) rfl rfl ?_
  simp only [go_sem]
  refine bF (fun h2=> ?_) (fun h2=> ?_)<;>simp only [h2,go_sem]
  ·have e3:ms[j.1].val≠0:=by simpa using h2
   have e4:=e2.2 e3
   refine Fin.bQ _ rfl rfl rfl ?_
   simp only [ay,jf,e4,if_pos e3]
  ·have e3:ms[j.1].val=0:=by simpa using h2
   simp only [cZ (show j.1≤100000 by omega),go_sem]
   exact hB _ ⟨j.1+1,e1,e2.1.trans e3⟩ (by simp only;omega) (Wk.mk [] [] rfl rfl (by simp only [go_sem]) (by simp only [go_sem]) (by simp only [rv,go_sem]))
 ·have e1:j.1=ms.length:=by have:=j.2.1;simp only [decide_eq_false_iff_not] at h1;omega
  have e2:gy ms=0:=by have:=j.2.2;rw [e1,List.take_length] at this;exact this
  refine go_loop (fun j:{j:Nat // j≤ms.length∧((ids ms).take j).Nodup}=>⟨2000,[(0,iq ms),(5,I j.1)],[]⟩) (fun j=>ms.length - j.1) ⟨0,by omega,by simp⟩ (Wk.mk [] [] rfl rfl (by simp only [go_sem]) (by simp only [go_sem]) (by simp only [rv,go_sem];try rfl)) ?_
  intro j B hB
  simp only [go_sem]
  refine bF (fun h1=> ?_) (fun h1=> ?_)<;>simp only [h1,go_sem]
  ·have e1:j.1<ms.length:=by simp only [decide_eq_true_eq] at h1;omega
   have e3:j.1<(ids ms).length:=by rw [yH];exact e1
   have e4:(ids ms)[j.1]=ms[j.1].id:=by simp [ids]
   have hq:0≤(j.1:Int)∧(j.1:Int)<(ms.length:Int):=⟨by omega,by omega⟩
   have e5:nth (bP ms) j.1=[I ms[j.1].id,I ms[j.1].route,I ms[j.1].epoch,I ms[j.1].count,I ms[j.1].gen,I ms[j.1].sent,.v (.string ms[j.1].body)]:=ny e1
   simp only [Int.toNat_natCast,e5,go_sem]
   refine ⟨hq,?_⟩
   refine aO (yI ms _ hl) rfl rfl ?_
   simp only [go_sem]
   refine bF (fun h2=> ?_) (fun h2=> ?_)<;>simp only [h2,go_sem]
   ·have e6:gG ms ms[j.1].id≠j.1:=by simpa using h2
    have e7:(ids ms)[j.1] ∈ (ids ms).take j.1:=by
     by_cases h:(ids ms)[j.1] ∈ (ids ms).take j.1
     ·exact h
     ·have:=Wu e3 h rfl
      rw [e4] at this
      exact absurd (by unfold gG;rw [if_pos this.1,this.2]) e6
    refine Fin.bQ _ rfl rfl rfl ?_
    simp only [ay,jf,e2,abe e3 e7,ne_eq,not_true_eq_false,if_false,if_true]
   ·have e6:gG ms ms[j.1].id=j.1:=by simpa using h2
    have e7:(ids ms)[j.1] ∉ (ids ms).take j.1:=by
     intro h
     have h3:=abf h
     rw [e4] at h3
     unfold gG at e6
     rw [if_pos (by rw [←e4];exact List.getElem_mem e3)] at e6
     omega
    simp only [cZ (show j.1≤100000 by omega),go_sem]
    exact hB _ ⟨j.1+1,e1,(Ws e3).2 ⟨j.2.2,e7⟩⟩ (by simp only;omega) (Wk.mk [] [] rfl rfl (by simp only [go_sem]) (by simp only [go_sem]) (by simp only [rv,go_sem]))
  ·have e1:j.1=ms.length:=by have:=j.2.1;simp only [decide_eq_false_iff_not] at h1;omega
   have e3:=j.2.2
   rw [e1,List.take_of_length_le (by rw [yH];omega)] at e3
   have e4:dup ms=false:=by simp [dup,e3]
   refine Fin.bQ _ rfl rfl rfl ?_
   simp only [ay,jf,e2,e4]
   rfl
def jb (c:Int) (ms:List ai):Int:=if c<1 then 1 else if 24<c then 1 else if c<ms.length then 2 else jf ms
theorem Fj (c:Int) (ms:List ai) (hl:ms.length≤100000):Fn Tryz.prog 489 [.agg [I c,iq ms]] [] (I (jb c ms)) [] []:=by
 refine Fn.aN akg (by simp) ?_
 unfold Va SC.mk' jb
 simp only [go_sem]
 by_cases h1:c<1
 ·simp only [h1,decide_true,if_true,go_sem]
  exact Fin.bQ _ rfl rfl rfl rfl
 by_cases h2:24<c
 ·simp only [h1,h2,decide_true,decide_false,if_true,if_false,go_sem]
  exact Fin.bQ _ rfl rfl rfl rfl
 by_cases h3:c<ms.length
 ·simp only [h1,h2,h3,decide_true,decide_false,if_true,if_false,go_sem]
  exact Fin.bQ _ rfl rfl rfl rfl
 simp only [h1,h2,h3,decide_false,if_false,go_sem]
 refine aO (Wv ms hl) rfl rfl ?_
 simp only [go_sem]
 exact Fin.bQ _ rfl rfl rfl rfl
def Aj (c:Int) (ms:List ai):Int:=if jb c ms≠0 then 0 else c - ms.length
theorem CX {c:Int} {ms:List ai} (h:jb c ms=0):1≤c∧c≤24∧(ms.length:Int)≤c∧gy ms=0∧dup ms=false:=by
 unfold jb jf at h
 repeat' split at h
 all_goals simp_all
 all_goals omega
theorem abg (c:Int) (ms:List ai) (hl:ms.length≤100000):Fn Tryz.prog 449 [.agg [I c,iq ms]] [] (I (Aj c ms)) [] []:=by
 refine Fn.aN ajX (by simp) ?_
 unfold UN SC.mk'
 simp only [go_sem]
 refine aO (Fj c ms hl) rfl rfl ?_
 simp only [go_sem]
 refine bF (fun h1=> ?_) (fun h1=> ?_)<;>simp only [h1,go_sem]
 ·refine Fin.bQ _ rfl rfl rfl ?_
  have e:jb c ms≠0:=by simpa using h1
  simp only [ay,Aj,if_pos e]
 ·have e:jb c ms=0:=by simpa using h1
  have e2:=CX e
  refine Fin.bQ _ rfl rfl rfl ?_
  simp only [ay,Aj,e,bH (n:=c - ms.length) (by omega),ne_eq,not_true_eq_false,if_false]
abbrev kL (c:Int) (ms:List ai):AV:= .agg [I c,iq ms]
def Wx (k:Int):AV:=if k<1 then .aF [kL 0 [],I 1] else if 24<k then .aF [kL 0 [],I 1] else .aF [kL k [],I 0]
theorem aly (k:Int):Fn Tryz.prog 102 [I k] [] (Wx k) [] []:=by
 refine Fn.aN aaL (by simp) ?_
 unfold Nv SC.mk' Wx
 simp only [go_sem]
 by_cases h1:k<1
 ·simp only [h1,decide_true,if_true,go_sem]
  exact Fin.mk0 _ rfl rfl (by simp only [ay,rv,au,bP,List.map_nil,go_sem])
 by_cases h2:24<k
 ·simp only [h1,h2,decide_true,decide_false,if_true,if_false,go_sem]
  exact Fin.mk0 _ rfl rfl (by simp only [ay,rv,au,bP,List.map_nil,go_sem])
 simp only [h1,h2,decide_false,if_false,go_sem]
 exact Fin.mk0 _ rfl rfl (by simp only [ay,rv,au,bP,List.map_nil,go_sem])
def yJ (c:Int) (ms:List ai) (ep:Int):Int:=if jb c ms≠0 then jb c ms else if ep<0 then 1 else if 65536<ep then 1 else 0
theorem vg (m:ai) (ep:Int):Fn Tryz.prog 490 [.agg m.enc,I ep] [] (Bo (decide (m.epoch<ep))) [] []:=by
 refine Fn.aN akh (by simp) ?_
 unfold Vb SC.mk' ai.enc
 simp only [go_sem]
 exact Fin.bQ _ rfl rfl rfl rfl
end Go.Eng
namespace Go.Eng
open Go Go.Proofs
def zM:ai:=⟨0,0,0,0,0,0,⟨#[]⟩⟩
def gt (l:List ai) (k:Nat):ai:=l[k]?.getD zM
theorem CY {l:List ai} {k:Nat} (h:k<l.length):gt l k=l[k]:=by simp [gt,h]
theorem NY {l:List ai} {k:Nat} (h:l.length≤k):gt l k=zM:=by simp [gt,List.getElem?_eq_none h]
theorem abh {n h i:Nat} (hi:i<n) (hh:h<n):((h+i) % n+n - h) % n=i:=by
 by_cases e:h+i<n
 ·rw [Nat.mod_eq_of_lt e,show h+i+n - h=i+n by omega,Nat.add_mod_right,Nat.mod_eq_of_lt hi]
 ·rw [show (h+i) % n=h+i - n by rw [Nat.mod_eq_sub_mod (by omega),Nat.mod_eq_of_lt (by omega)],show h+i - n+n - h=i by omega,Nat.mod_eq_of_lt hi]
theorem abj {n h p:Nat} (hp:p<n) (hh:h<n):(h+(p+n - h) % n) % n=p:=by
 by_cases e:h≤p
 ·rw [show p+n - h=(p - h)+n by omega,Nat.add_mod_right,Nat.mod_eq_of_lt (show p - h<n by omega),show h+(p - h)=p by omega,Nat.mod_eq_of_lt hp]
 ·rw [Nat.mod_eq_of_lt (show p+n - h<n by omega),show h+(p+n - h)=p+n by omega,Nat.add_mod_right,Nat.mod_eq_of_lt hp]
theorem abk {n h p:Nat} (hp:p<n):(p+n - h) % n<n:=Nat.mod_lt _ (by omega)
def mJ (n h:Nat) (f:Nat→ai):List ai:=(List.range n).map fun p=>f ((p+n - h) % n)
theorem Ak (n h:Nat) (f:Nat→ai):(mJ n h f).length=n:=by simp [mJ]
theorem NZ {n h:Nat} {f:Nat→ai} {p:Nat} (hp:p<(mJ n h f).length):(mJ n h f)[p]=f ((p+n - h) % n):=by simp [mJ]
theorem alz {n h i:Nat} (f:Nat→ai) (hi:i<n) (hh:h<n):gt (mJ n h f) ((h+i) % n)=f i:=by
 have hlt:(h+i) % n<(mJ n h f).length:=by rw [Ak];exact Nat.mod_lt _ (by omega)
 rw [CY hlt,NZ,abh hi hh]
theorem alA {n h:Nat} {f g:Nat→ai} (e:∀ k,k<n→f k=g k):mJ n h f=mJ n h g:=by
 refine List.map_congr_left fun p hp=> ?_
 exact e _ (abk (List.mem_range.1 hp))
theorem alB {n h i:Nat} (f:Nat→ai) (x:ai) (hi:i<n) (hh:h<n):(mJ n h f).set ((h+i) % n) x=mJ n h (fun k=>if k=i then x else f k):=by
 refine List.ext_getElem (by simp [Ak]) fun p h1 h2=> ?_
 rw [List.getElem_set,NZ h2]
 simp only [Ak] at h2
 by_cases e:(h+i) % n=p
 ·rw [if_pos e,if_pos (by rw [←e];exact abh hi hh)]
 ·rw [if_neg e,NZ,if_neg]
  intro e2
  rw [←e2,abj h2 hh] at e
  exact e rfl
def fG (n h:Nat) (l:List ai):List ai:=mJ n h (gt l)
theorem gV (n h:Nat) (l:List ai):(fG n h l).length=n:=Ak ..
theorem Wy {n h i:Nat} (l:List ai) (hi:i<n) (hh:h<n):gt (fG n h l) ((h+i) % n)=gt l i:=alz _ hi hh
theorem abl {n h i:Nat} (l:List ai) (hi:i<n) (hh:h<n):nth (bP (fG n h l)) ((h+i) % n)=(gt l i).enc:=by
 have hlt:(h+i) % n<(fG n h l).length:=by rw [gV];exact Nat.mod_lt _ (by omega)
 rw [ny hlt,←CY hlt,Wy l hi hh]
theorem abm (l:List ai) (k:Nat) (m:ai):(bP l).set k m.enc=bP (l.set k m):=by simp [bP,List.map_set]
theorem alC {n h i:Nat} {l l':List ai} {x:ai} (hi:i<n) (hh:h<n) (e:∀ k,k<n→gt l' k=if k=i then x else gt l k):(fG n h l).set ((h+i) % n) x=fG n h l':=by
 unfold fG
 rw [alB _ _ hi hh]
 exact alA fun k hk=>(e k hk).symm
theorem alD {n h:Nat} {l:List ai} (x:ai) (hl:l.length<n) (hh:h<n):(fG n h l).set ((h+l.length) % n) x=fG n h (l++[x]):=by
 refine alC hl hh fun k hk=> ?_
 by_cases e:k=l.length
 ·subst e;simp [gt]
 ·rw [if_neg e]
  by_cases e2:k<l.length
  ·simp [gt,List.getElem?_append_left e2]
  ·rw [NY (by simp;omega),NY (by omega)]
theorem WA (n h:Nat):fG n h []=List.replicate n zM:=by
 refine List.ext_getElem (by simp [gV]) fun p h1 h2=> ?_
 simp [fG,mJ,gt]
abbrev jU (cs:List ai) (h s:Int):AV:= .agg [iq cs,I h,I s]
abbrev CZ (n h:Nat) (l:List ai):AV:=jU (fG n h l) h l.length
def gJ (cs:List ai) (h s:Nat):List ai:=(List.range s).map fun i=>gt cs ((h+i) % cs.length)
theorem yK (cs:List ai) (h s:Nat):(gJ cs h s).length=s:=by simp [gJ]
theorem wO {n h:Nat} {l:List ai} (hl:l.length≤n) (hh:h<n):gJ (fG n h l) h l.length=l:=by
 refine List.ext_getElem (by simp [gJ]) fun i h1 h2=> ?_
 simp only [gJ,List.getElem_map,List.getElem_range,gV]
 rw [Wy l (by omega) hh,CY h2]
theorem alE {cs:List ai} {h s:Nat} (hh:h<cs.length) (hs:s≤cs.length) (hz:∀ i,s≤i→i<cs.length→gt cs ((h+i) % cs.length)=zM):fG cs.length h (gJ cs h s)=cs:=by
 refine List.ext_getElem (by rw [gV]) fun p h1 h2=> ?_
 have e0:(fG cs.length h (gJ cs h s))[p]=gt (gJ cs h s) ((p+cs.length - h) % cs.length):=NZ (f:=gt (gJ cs h s)) (by rw [Ak];exact h2)
 rw [e0]
 have e1:=abj h2 hh
 have h3:=abk (h:=h) h2
 generalize (p+cs.length - h) % cs.length=k at e1 h3 ⊢
 rw [←CY h2]
 by_cases e:k<s
 ·simp [gt,gJ,e,e1]
 ·rw [NY (by rw [yK];omega),←e1,hz k (by omega) h3]
end Go.Eng
namespace Go.Eng
open Go Go.Proofs
attribute [local go_sem] Int.cast_ofNat_Int Int.reduceBEq Int.reduceLT Int.reduceLE Int.reduceSub Int.reduceAdd Int.reduceNeg Int.reduceEq Int.reduceToNat decide_true decide_false decide_eq_true_eq beq_self_eq_true bne_self_eq_false List.reduceReplicate List.length_set List.length_replicate List.length_cons List.length_nil List.set_cons_zero List.set_cons_succ Int.toNat_natCast
theorem Fp {n a:Nat} (h:a≤100000) (h':n≤100000):IntKind.i64.wrap ((a:Int)+(n:Int))=((a+n:Nat):Int):=by rw [bH (by omega)];omega
theorem tmN (a m:Nat):((a:Nat):Int).tmod ((m:Nat):Int)=((a % m:Nat):Int):=rfl
theorem alG:IntKind.i64.wrap 0=0:=rfl
theorem alH (n:Nat):decide ((n:Int)<0)=false:=by simp
theorem alI:kills []=[]:=rfl
theorem alJ (b:Nat) (Z:List Nat):kills (b::Z)=(b,Ob.dead)::kills Z:=rfl
attribute [go_sem] alG alH alI alJ tmN
theorem C9 (m:ai):bP [m]=[m.enc]:=rfl
theorem Fin.Fq {res:List kW} {r:AV} {t:List (Nat×AV)} {h:List (Nat×Ob)} {e:TypeId} {sz:Nat} {xs:List (List AV)} (b:Nat) (vs:List AV) (h1:kX t h res=some vs) (hb:get h b=some (.row e sz xs))
 (h2:okS h [(4,b)] [] [(4,.row e sz xs)]=true) (h3:rv h [(4,b)] [] r (ay vs)):Fin res r [] [.row e sz xs] t h:=by
 have e:outs [] [.row e sz xs]=[(4,.row e sz xs)]:=rfl
 refine ⟨[(4,b)],[],vs,h1,by rw [e];exact h2,?_,by simp only [ja],h3⟩
 rw [e]
 simp only [dJ,get,if_true,hb,and_true,cO,and_self]
theorem Dc {P:Program} {f:FuncId} {xs ys:List AV} {r:AV} {nm:Nat} {h:List (Nat×Ob)} {k:List It} {Q:Exit→St→Prop} {n n':Nat} {t:List (Nat×AV)} {d:Option Nat} {l:List aC}
 (hF:Fn P f xs [] r [] []) (ha:au h [] [] xs ys) (hr:r.pure=true) (hn:na r=true) (hk:go P (.ops (nm+8) n' l::k) Q n (bU t d r) h):pU P nm f ys d n' l k Q n t h:=
 zJ (hF.Zj ha hr hn) (by simpa using hk)
theorem alK (cs:List ai) (h j:Nat):gJ cs h (j+1)=gJ cs h j++[gt cs ((h+j) % cs.length)]:=by
 simp [gJ,List.range_succ]
theorem WB {cs:List ai} {k:Nat} (h:k<cs.length):nth (bP cs) k=(gt cs k).enc:=by rw [ny h,CY h]
theorem alL (bs:List (List AV)) (gs:List Ob):outs bs gs=dP 0 (bs.map .box)++dP 4 gs:=rfl
attribute [go_sem] alL dP
end Go.Eng
namespace Go.Eng
open Go Go.Proofs
attribute [local go_sem] Int.cast_ofNat_Int Int.reduceBEq Int.reduceLT Int.reduceLE Int.reduceSub Int.reduceAdd Int.reduceNeg Int.reduceEq Int.reduceToNat decide_true decide_false decide_eq_true_eq beq_self_eq_true bne_self_eq_false List.reduceReplicate List.length_set List.length_replicate List.length_cons List.length_nil List.set_cons_zero List.set_cons_succ Int.toNat_natCast
def eqv (a b:ai):Bool:=(a.id==b.id)&&((a.route==b.route)&&((a.epoch==b.epoch)&&((a.count==b.count)&&((a.gen==b.gen)&&((a.sent==b.sent)&&((a.body.toList==b.body.toList)&&true))))))
theorem alM (a b:ai):ku [0,0,0,0,0,0,1] a.enc b.enc=some (eqv a b):=by
 simp only [ku,ai.enc,if_true,eqv]
theorem alN (a:ai):ku [0,0,0,0,0,0,1] a.enc [.v (.int .i64 0),.v (.int .i64 0),.v (.int .i64 0),.v (.int .i64 0),.v (.int .i64 0),.v (.int .i64 0),.v (.string ⟨#[]⟩)]=some (eqv a zM):=alM a zM
theorem alO (a:ai):eqv a a=true:=by simp [eqv]
theorem WC (s:ByteArray) (i:Nat) (r:List UInt8):(ByteArray.toList.loop s i r).length=r.length+(s.size - i):=by
 unfold ByteArray.toList.loop
 split
 ·rename_i h
  rw [WC s (i+1)]
  simp
  omega
 ·simp
  omega
termination_by s.size - i
theorem alP {a:ai} (h:eqv a zM=true):a=zM:=by
 obtain ⟨a1,a2,a3,a4,a5,a6,a7⟩:=a
 simp only [eqv,zM,Bool.and_eq_true,beq_iff_eq,and_true] at h
 obtain ⟨h1,h2,h3,h4,h5,h6,h7⟩:=h
 subst h1 h2 h3 h4 h5 h6
 have e:a7.toList.length=0:=by
  rw [h7]
  have:=WC ⟨#[]⟩ 0 []
  unfold ByteArray.toList
  rw [this]
  rfl
 have e2:a7.size=0:=by
  have:=WC a7 0 []
  unfold ByteArray.toList at e
  simp at this
  omega
 have:a7=⟨#[]⟩:=by
  obtain ⟨d⟩:=a7
  have:d.size=0:=e2
  rw [Array.size_eq_zero_iff] at this
  rw [this]
 rw [this]
 rfl
attribute [go_sem] alN
def rF (cs:List ai) (h s:Int):Bool:=decide (1≤cs.length)&&(decide (cs.length≤12)&&(decide (0≤h)&&(decide (h<cs.length)&&(decide (0≤s)&&decide (s≤cs.length)))))
def Am (cs:List ai) (h s:Nat):Bool:=(List.range cs.length).all fun i=>decide (i<s)||eqv (gt cs ((h+i) % cs.length)) zM
def fP (cs:List ai) (h s:Int):Int:=if rF cs h s=false then 1 else if Am cs h.toNat s.toNat=false then 7 else jf (gJ cs h.toNat s.toNat)
structure arx (ms:List ai) where
 j:Nat
 es:List Int
 b:Bool
 hj:j≤ms.length
 inv:gy (ms.take j)=0
 mem:∀ x,x ∈ es↔x ∈ (ids ms).take j
 hb:b= !decide (((ids ms).take j).Nodup)
theorem alQ {cs:List ai} {h s:Int} (e:fP cs h s=0):∃ (h':Nat) (l:List ai),h=h'∧s=(l.length:Int)∧cs=fG cs.length h' l∧1≤cs.length∧cs.length≤12∧h'<cs.length∧l.length≤cs.length∧jf l=0∧l=gJ cs h' l.length:=by
 unfold fP at e
 split at e
 ·cases e
 ·rename_i h1
  split at e
  ·cases e
  ·rename_i h2
   simp only [Bool.not_eq_false] at h1 h2
   simp only [rF,Bool.and_eq_true,decide_eq_true_eq] at h1
   simp only [Am,List.all_eq_true,List.mem_range,Bool.or_eq_true,decide_eq_true_eq] at h2
   refine ⟨h.toNat,gJ cs h.toNat s.toNat,by omega,by rw [yK];omega,?_,by omega,by omega,by omega,by rw [yK];omega,e,by rw [yK]⟩
   refine (alE (by omega) (by omega) fun i hi hn=> ?_).symm
   rcases h2 i hn with h3|h3
   ·omega
   ·exact alP h3
structure Rg (n h:Nat) (l:List ai):Prop where
 n1:1≤n
 n2:n≤12
 hh:h<n
 ll:l.length≤n
 snd:jf l=0
theorem Rg.ok {n h:Nat} {l:List ai} (r:Rg n h l):fP (fG n h l) h l.length=0:=by
 have:=r.n1;have:=r.n2;have:=r.hh;have:=r.ll
 unfold fP
 rw [if_neg (by simp [rF,gV];omega),if_neg]
 ·rw [Int.toNat_natCast,Int.toNat_natCast,wO r.ll r.hh];exact r.snd
 ·simp only [Bool.not_eq_false,Am,List.all_eq_true,List.mem_range,Bool.or_eq_true,decide_eq_true_eq,gV,Int.toNat_natCast]
  intro i hi
  by_cases h1:i<l.length
  ·exact .inl h1
  ·right
   rw [Wy l hi r.hh,NY (by omega)]
   exact alO _
def Ap (cs:List ai) (h s:Int):List ai:=if fP cs h s≠0 then [] else gJ cs h.toNat s.toNat
end Go.Eng
namespace Go.Eng
open Go Go.Proofs
attribute [local go_sem] Int.cast_ofNat_Int Int.reduceBEq Int.reduceLT Int.reduceLE Int.reduceSub Int.reduceAdd Int.reduceNeg Int.reduceEq Int.reduceToNat decide_true decide_false decide_eq_true_eq beq_self_eq_true bne_self_eq_false List.reduceReplicate List.length_set List.length_replicate List.length_cons List.length_nil List.set_cons_zero List.set_cons_succ Int.toNat_natCast
theorem alR {P:Program} {f:FuncId} {xs ys:List AV} {r:AV} {nm:Nat} {h:List (Nat×Ob)} {k:List It} {Q:Exit→St→Prop} {n n':Nat} {t:List (Nat×AV)} {d:Option Nat} {l ops:List aC} {acc:List bW}
 (hF:Fn P f xs [] r [] []) (ha:au h [] [] xs ys) (hr:r.pure=true) (hn:na r=true) (hk:go P (.dF (nm+8) n' l ops ((dR ys,[])::acc)::k) Q n (bU t d r) h):pW P nm f ys d n' l ops acc k Q n t h:=
 zK (hF.Zj ha hr hn) (by simpa using hk)
theorem rG (cs:List ai):(bP cs).take cs.length=bP cs:=by rw [←jT,List.take_length]
theorem WE (n h:Nat) (l:List ai):(bP (fG n h l)).take n=bP (fG n h l):=by have:=rG (fG n h l);rwa [gV] at this
theorem alS (m:ai):m.enc.drop 7=[]:=rfl
theorem alT (h:List (Nat×Ob)) (S:List (Nat×Nat)) (N:List Nat) (m:ai):au h S N m.enc m.enc:=xW _ rfl
attribute [go_sem] rG WE gV alS alT
theorem Aq {cs:List ai} {h s:Int} (e:fP cs h s=0):∃ (n h':Nat) (l:List ai),Rg n h' l∧cs=fG n h' l∧h=h'∧s=(l.length:Int):=by
 obtain ⟨h',l,h1,h2,h3,h4,h5,h6,h7,h8,_⟩:=alQ e
 exact ⟨cs.length,h',l,⟨h4,h5,h6,h7,h8⟩,h3,h1,h2⟩
def lq (cs:List ai) (h s:Int) (m:ai):Int:=
 if fP cs h s≠0 then fP cs h s else if m.val≠0 then m.val else if s=cs.length then 3 else if 0≤gG (gJ cs h.toNat s.toNat) m.id then 10 else 0
def newR (k:Int):AV:=if k<1 then .aF [jU [] 0 0,I 1] else if 12<k then .aF [jU [] 0 0,I 1] else .aF [CZ k.toNat 0 [],I 0]
def N7 (cs:List ai) (h s:Int) (m:ai):AV:=if lq cs h s m≠0 then .aF [jU [] 0 0,I (lq cs h s m)] else .aF [CZ cs.length h.toNat (gJ cs h.toNat s.toNat++[m]),I 0]
def N8 (cs:List ai) (h s:Int) (m:ai):AV:=if lq cs h s m≠0 then .aF [jU [] 0 0,I (lq cs h s m)] else .aF [CZ cs.length ((h.toNat+(cs.length - 1)) % cs.length) (m::gJ cs h.toNat s.toNat),I 0]
theorem WG {cs:List ai} {h s:Int} {m:ai} (e:lq cs h s m=0):fP cs h s=0∧s≠cs.length∧m.val=0∧¬ 0≤gG (gJ cs h.toNat s.toNat) m.id:=by
 unfold lq at e
 by_cases h1:fP cs h s=0
 ·by_cases h2:m.val=0
  ·by_cases h3:s=cs.length
   ·rw [if_neg (by simp [h1]),if_neg (by simp [h2]),if_pos h3] at e;cases e
   ·rw [if_neg (by simp [h1]),if_neg (by simp [h2]),if_neg h3] at e
    by_cases h4:0≤gG (gJ cs h.toNat s.toNat) m.id
    ·rw [if_pos h4] at e;cases e
    ·exact ⟨h1,h3,h2,h4⟩
  ·rw [if_neg (by simp [h1]),if_pos h2] at e;exact absurd e h2
 ·rw [if_pos h1] at e;exact absurd e h1
end Go.Eng
namespace Go.Eng
open Go Go.Proofs
attribute [local go_sem] Int.cast_ofNat_Int Int.reduceBEq Int.reduceLT Int.reduceLE Int.reduceSub Int.reduceAdd Int.reduceNeg Int.reduceEq Int.reduceToNat decide_true decide_false decide_eq_true_eq beq_self_eq_true bne_self_eq_false List.reduceReplicate List.length_set List.length_replicate List.length_cons List.length_nil List.set_cons_zero List.set_cons_succ Int.toNat_natCast
theorem alU (n h:Nat) (f:Nat→ai):(bP (mJ n h f)).take n=bP (mJ n h f):=by have:=rG (mJ n h f);rwa [Ak] at this
attribute [go_sem] alU Ak
abbrev Z':AV:= .v (.int .i64 0)
def N9 (cs:List ai) (h s id:Int):AV:=
 if fP cs h s≠0 then .aF [jU [] 0 0,.agg zM.enc,I (fP cs h s)] else if gG (gJ cs h.toNat s.toNat) id<0 then .aF [jU [] 0 0,.agg zM.enc,I 4]
 else .aF [CZ cs.length h.toNat ((gJ cs h.toNat s.toNat).eraseIdx (gG (gJ cs h.toNat s.toNat) id).toNat),.agg (gt (gJ cs h.toNat s.toNat) (gG (gJ cs h.toNat s.toNat) id).toNat).enc,I 0]
theorem alV {l:List ai} {x:Int} (h:¬ gG l x<0):(gG l x).toNat<l.length∧(gt l (gG l x).toNat).id=x∧gG l x=((gG l x).toNat:Nat):=by
 unfold gG at h ⊢
 split at h
 ·rename_i hm
  have h1:=List.idxOf_lt_length_of_mem hm
  rw [if_pos hm,Int.toNat_natCast]
  rw [yH] at h1
  refine ⟨h1,?_,rfl⟩
  rw [CY h1]
  have h2:(ids l)[(ids l).idxOf x]'(by rw [yH];exact h1)=l[(ids l).idxOf x].id:=by
   generalize hk:(ids l).idxOf x=k at h1 ⊢
   simp only [ids,List.getElem_map]
  rw [←h2]
  exact List.getElem_idxOf _
 ·omega
end Go.Eng
