/-
  Part of a proof: lemmas and definitions of this work.
  No condition.
-/
import Derived.Test.YthhjbngoibmpgaaGreatH08
import Derived.Test.YthhjbngoibmpgaaGreatH04
import Derived.Laws.BitsLemmas
import Derived.Laws.Bits64
set_option linter.all false
set_option maxRecDepth 100000
set_option maxHeartbeats 8000000
namespace Go.Eng
open Go Go.Proofs
def iw (ms:List ak):Int:=if eG ms≠0 then eG ms else if dup ms then 10 else 0
def qO (c:Int) (ms:List ak):Int:=if c<1 then 1 else if 24<c then 1 else if c<ms.length then 2 else iw ms
theorem aac (c:Int) (ms:List ak) (hl:ms.length<=100000):Fn Tryz.prog 293 [.agg [I c,mg ms]] [] (I (qO c ms)) [] []:=by
 refine Fn.aB Zp (by simp) ?_
 unfold FT SC.mk' qO
 simp only [go_sem]
 by_cases h1:c<1
 ·simp only [h1,decide_true,if_true,go_sem]
  exact Fin.aQ _ rfl rfl rfl rfl
 by_cases h2:24<c
 ·simp only [h1,h2,decide_true,decide_false,if_true,if_false,go_sem]
  exact Fin.aQ _ rfl rfl rfl rfl
 by_cases h3:c<ms.length
 ·simp only [h1,h2,h3,decide_true,decide_false,if_true,if_false,go_sem]
  exact Fin.aQ _ rfl rfl rfl rfl
 simp only [h1,h2,h3,decide_false,if_false,go_sem]
 refine aS (Z5 ms hl) rfl rfl ?_
 simp only [go_sem]
 refine dQ (fun h4=> ?_) (fun h4=> ?_)<;>simp only [h4,go_sem]
 ·refine Fin.aQ _ rfl rfl rfl ?_
  have e:eG ms≠0:=by simpa using h4
  simp only [aD,iw,if_pos e]
 ·have e:eG ms=0:=by simpa using h4
  refine aS (Z8 ms hl) rfl rfl ?_
  simp only [go_sem]
  refine dQ (fun h5=> ?_) (fun h5=> ?_)<;>simp only [h5,go_sem]
  ·refine Fin.aQ _ rfl rfl rfl ?_
   simp only [aD,iw,e,h5,ne_eq,not_true_eq_false,if_false,if_true]
  ·refine Fin.aQ _ rfl rfl rfl ?_
   simp only [aD,iw,e,h5,ne_eq,not_true_eq_false,if_false]
   rfl
def aad (c:Int) (ms:List ak):Int:=if qO c ms≠0 then 0 else c - ms.length
theorem aae {c:Int} {ms:List ak} (h:qO c ms=0):1<=c/\c<=24/\(ms.length:Int)<=c/\eG ms=0/\dup ms=false:=by
 unfold qO iw at h
 repeat' split at h
 all_goals simp_all
 all_goals omega
theorem aaf (m:ak) (ep:Int):Fn Tryz.prog 253 [.agg m.enc,I ep] [] (Bo (decide (m.epoch<ep))) [] []:=by
 refine Fn.aB Zo (by simp) ?_
 unfold FH SC.mk' ak.enc
 simp only [go_sem]
 exact Fin.aQ _ rfl rfl rfl rfl
def zM:ak:=⟨0,0,0,0,0,0,⟨#[]⟩⟩
def gt (l:List ak) (k:Nat):ak:=l[k]?.getD zM
theorem A7 {l:List ak} {k:Nat} (h:k<l.length):gt l k=l[k]:=by simp [gt,h]
theorem Oj {l:List ak} {k:Nat} (h:l.length<=k):gt l k=zM:=by simp [gt,List.getElem?_eq_none h]
theorem aag {n h i:Nat} (hi:i<n) (hh:h<n):((h+i) % n+n - h) % n=i:=by
 by_cases e:h+i<n
 ·rw [Nat.mod_eq_of_lt e,show h+i+n - h=i+n by omega,Nat.add_mod_right,Nat.mod_eq_of_lt hi]
 ·rw [show (h+i) % n=h+i - n by rw [Nat.mod_eq_sub_mod (by omega),Nat.mod_eq_of_lt (by omega)],show h+i - n+n - h=i by omega,Nat.mod_eq_of_lt hi]
theorem aah {n h p:Nat} (hp:p<n) (hh:h<n):(h+(p+n - h) % n) % n=p:=by
 by_cases e:h<=p
 ·rw [show p+n - h=(p - h)+n by omega,Nat.add_mod_right,Nat.mod_eq_of_lt (show p - h<n by omega),show h+(p - h)=p by omega,Nat.mod_eq_of_lt hp]
 ·rw [Nat.mod_eq_of_lt (show p+n - h<n by omega),show h+(p+n - h)=p+n by omega,Nat.add_mod_right,Nat.mod_eq_of_lt hp]
theorem aai {n h p:Nat} (hp:p<n):(p+n - h) % n<n:=Nat.mod_lt _ (by omega)
def mh (n h:Nat) (f:Nat->ak):List ak:=(List.range n).map fun p=>f ((p+n - h) % n)
theorem yg (n h:Nat) (f:Nat->ak):(mh n h f).length=n:=by simp [mh]
theorem Ol {n h:Nat} {f:Nat->ak} {p:Nat} (hp:p<(mh n h f).length):(mh n h f)[p]=f ((p+n - h) % n):=by simp [mh]
theorem aaj {n h i:Nat} (f:Nat->ak) (hi:i<n) (hh:h<n):gt (mh n h f) ((h+i) % n)=f i:=by
 have hlt:(h+i) % n<(mh n h f).length:=by rw [yg];exact Nat.mod_lt _ (by omega)
 rw [A7 hlt,Ol,aag hi hh]
def iy (n h:Nat) (l:List ak):List ak:=mh n h (gt l)
theorem o5 (n h:Nat) (l:List ak):(iy n h l).length=n:=yg ..
theorem Om {n h i:Nat} (l:List ak) (hi:i<n) (hh:h<n):gt (iy n h l) ((h+i) % n)=gt l i:=aaj _ hi hh
theorem aak (n h:Nat):iy n h []=List.replicate n zM:=by
 refine List.ext_getElem (by simp [o5]) fun p h1 h2=> ?_
 simp [iy,mh,gt]
abbrev qP (cs:List ak) (h s:Int):AV:= .agg [mg cs,I h,I s]
abbrev aal (n h:Nat) (l:List ak):AV:=qP (iy n h l) h l.length
def dS (cs:List ak) (h s:Nat):List ak:=(List.range s).map fun i=>gt cs ((h+i) % cs.length)
theorem mo (cs:List ak) (h s:Nat):(dS cs h s).length=s:=by simp [dS]
theorem GH {n h:Nat} {l:List ak} (hl:l.length<=n) (hh:h<n):dS (iy n h l) h l.length=l:=by
 refine List.ext_getElem (by simp [dS]) fun i h1 h2=> ?_
 simp only [dS,List.getElem_map,List.getElem_range,o5]
 rw [Om l (by omega) hh,A7 h2]
theorem aam {cs:List ak} {h s:Nat} (hh:h<cs.length) (hs:s<=cs.length) (hz:∀ i,s<=i->i<cs.length->gt cs ((h+i) % cs.length)=zM):iy cs.length h (dS cs h s)=cs:=by
 refine List.ext_getElem (by rw [o5]) fun p h1 h2=> ?_
 have e0:(iy cs.length h (dS cs h s))[p]=gt (dS cs h s) ((p+cs.length - h) % cs.length):=Ol (f:=gt (dS cs h s)) (by rw [yg];exact h2)
 rw [e0]
 have e1:=aah h2 hh
 have h3:=aai (h:=h) h2
 generalize (p+cs.length - h) % cs.length=k at e1 h3 ⊢
 rw [<-A7 h2]
 by_cases e:k<s
 ·simp [gt,dS,e,e1]
 ·rw [Oj (by rw [mo];omega),<-e1,hz k (by omega) h3]
attribute [local go_sem] Int.cast_ofNat_Int Int.reduceBEq Int.reduceLT Int.reduceLE Int.reduceSub Int.reduceAdd Int.reduceNeg Int.reduceEq Int.reduceToNat decide_true decide_false decide_eq_true_eq beq_self_eq_true bne_self_eq_false List.reduceReplicate List.length_set List.length_replicate List.length_cons List.length_nil List.set_cons_zero List.set_cons_succ Int.toNat_natCast
theorem aan {n a:Nat} (h:a<=100000) (h':n<=100000):IntKind.i64.wrap ((a:Int)+(n:Int))=((a+n:Nat):Int):=by rw [cu (by omega)];omega
theorem tmN (a m:Nat):((a:Nat):Int).tmod ((m:Nat):Int)=((a % m:Nat):Int):=rfl
theorem aap:IntKind.i64.wrap 0=0:=rfl
theorem aaq (n:Nat):decide ((n:Int)<0)=false:=by simp
theorem aar:kills []=[]:=rfl
theorem aas (b:Nat) (Z:List Nat):kills (b::Z)=(b,Ob.dead)::kills Z:=rfl
attribute [go_sem] aap aaq aar aas tmN
theorem Oo (m:ak):dK [m]=[m.enc]:=rfl
theorem Fin.tC {res:List gY} {r:AV} {t:List (Nat×AV)} {h:List (Nat×Ob)} {e:TypeId} {sz:Nat} {xs:List (List AV)} (b:Nat) (vs:List AV) (h1:gZ t h res=some vs) (hb:get h b=some (.row e sz xs))
 (h2:fw h [(4,b)] [] [(4,.row e sz xs)]=true) (h3:rv h [(4,b)] [] r (aD vs)):Fin res r [] [.row e sz xs] t h:=by
 have e:outs [] [.row e sz xs]=[(4,.row e sz xs)]:=rfl
 refine ⟨[(4,b)],[],vs,h1,by rw [e];exact h2,?_,by simp only [gG],h3⟩
 rw [e]
 simp only [bq,get,if_true,hb,and_true,aR,and_self]
theorem GI (cs:List ak) (h i:Nat) (s:Int) (h1:h<=10000) (h2:i<=10000) (h3:0<cs.length):Fn Tryz.prog 350 [qP cs h s,I i] [] (I ((h+i) % cs.length:Nat)) [] []:=by
 refine Fn.aB NT (by simp) ?_
 unfold F4 SC.mk'
 simp only [aan (show h<=100000 by omega) (show i<=100000 by omega),go_sem]
 exact ⟨by omega,Fin.aQ _ rfl rfl rfl rfl⟩
theorem Oq (cs:List ak) (h j:Nat):dS cs h (j+1)=dS cs h j++[gt cs ((h+j) % cs.length)]:=by
 simp [dS,List.range_succ]
theorem GJ {cs:List ak} {k:Nat} (h:k<cs.length):nth (dK cs) k=(gt cs k).enc:=by rw [x9 h,A7 h]
theorem Ot (cs:List ak) (h s:Nat) (h1:h<=1000) (h2:s<=1000) (h3:0<cs.length):Fn Tryz.prog 309 [qP cs h s] [] (mg (dS cs h s)) [] []:=by
 refine Fn.aB FX (by simp) ?_
 unfold AQ SC.mk'
 simp only [go_sem]
 refine go_loop (fun j:{j:Nat // j<=s}=>⟨2000,[(1,.ptr 8 0),(3,.own 1500 7 0 j.1),(6,I s),(7,I j.1)],[(8,.box [mg cs,I h,I s]),(1500,.row 123 7 (dK (dS cs h j.1)))]⟩) (fun j=>s - j.1) ⟨0,by omega⟩
  (Wk.mk [(8,8)] [1500] rfl rfl (by simp only [bq,aR,au,rv,go_sem];try simp) (by simp only [gG,dS,dK,List.range_zero,List.map_nil,go_sem]) (by simp only [rv,go_sem];try simp)) ?_
 intro j B hB
 simp only [go_sem]
 refine dQ (fun h4=> ?_) (fun h4=> ?_)<;>simp only [h4,go_sem]
 ·have e1:j.1<s:=by simp only [decide_eq_true_eq] at h4;omega
  refine dV (GI cs h j.1 s (by omega) (by omega) h3) rfl rfl ?_
  have e2:(h+j.1) % cs.length<cs.length:=Nat.mod_lt _ h3
  simp only [GJ e2,mo,GD,xZ,cZ (show j.1<=100000 by omega),List.take_of_length_le (Nat.le_of_eq (mo cs h j.1)),List.drop_zero,go_sem]
  have hm:j.1+1<=maxLen:=Nat.le_trans (show _<=2000 by omega) (by decide)
  exact ⟨⟨by omega,by omega⟩,⟨by omega,hm,by omega⟩,rfl,hB _ ⟨j.1+1,e1⟩ (by simp only;omega) (Wk.mk [(8,8),(1500,2096)] [] rfl rfl (by simp only [bq,aR,au,rv,Oq,Oh,Oo,go_sem]) (by simp only [go_sem]) (by simp only [rv,go_sem]))⟩
 ·have e1:j.1=s:=by have:=j.2;simp only [decide_eq_false_iff_not] at h4;omega
  simp only [e1,go_sem]
  refine Fin.bA _ rfl rfl ?_
  simp only [aD,rv,GD,xZ,mo,List.take_of_length_le (Nat.le_of_eq (mo cs h s)),List.drop_zero,List.map_nil,List.not_mem_nil,not_false_eq_true,true_and,go_sem]
  simp
theorem aat (bs:List (List AV)) (gs:List Ob):outs bs gs=bS 0 (bs.map .box)++bS 4 gs:=rfl
attribute [go_sem] aat bS
end Go.Eng
namespace Go.Eng
open Go Go.Proofs
attribute [local go_sem] Int.cast_ofNat_Int Int.reduceBEq Int.reduceLT Int.reduceLE Int.reduceSub Int.reduceAdd Int.reduceNeg Int.reduceEq Int.reduceToNat decide_true decide_false decide_eq_true_eq beq_self_eq_true bne_self_eq_false List.reduceReplicate List.length_set List.length_replicate List.length_cons List.length_nil List.set_cons_zero List.set_cons_succ Int.toNat_natCast
def eqv (a b:ak):Bool:=(a.id==b.id)&&((a.route==b.route)&&((a.epoch==b.epoch)&&((a.count==b.count)&&((a.gen==b.gen)&&((a.sent==b.sent)&&((a.body.toList==b.body.toList)&&true))))))
theorem Ou (a b:ak):gu [0,0,0,0,0,0,1] a.enc b.enc=some (eqv a b):=by
 simp only [gu,ak.enc,if_true,eqv]
theorem aau (a:ak):gu [0,0,0,0,0,0,1] a.enc [.v (.int .i64 0),.v (.int .i64 0),.v (.int .i64 0),.v (.int .i64 0),.v (.int .i64 0),.v (.int .i64 0),.v (.string ⟨#[]⟩)]=some (eqv a zM):=Ou a zM
theorem Ov (a:ak):eqv a a=true:=by simp [eqv]
theorem GK (s:ByteArray) (i:Nat) (r:List UInt8):(ByteArray.toList.loop s i r).length=r.length+(s.size - i):=by
 unfold ByteArray.toList.loop
 split
 ·rename_i h
  rw [GK s (i+1)]
  simp
  omega
 ·simp
  omega
termination_by s.size - i
theorem aav {a:ak} (h:eqv a zM=true):a=zM:=by
 obtain ⟨a1,a2,a3,a4,a5,a6,a7⟩:=a
 simp only [eqv,zM,Bool.and_eq_true,beq_iff_eq,and_true] at h
 obtain ⟨h1,h2,h3,h4,h5,h6,h7⟩:=h
 subst h1 h2 h3 h4 h5 h6
 have e:a7.toList.length=0:=by
  rw [h7]
  have:=GK ⟨#[]⟩ 0 []
  unfold ByteArray.toList
  rw [this]
  rfl
 have e2:a7.size=0:=by
  have:=GK a7 0 []
  unfold ByteArray.toList at e
  simp at this
  omega
 have:a7=⟨#[]⟩:=by
  obtain ⟨d⟩:=a7
  have:d.size=0:=e2
  rw [Array.size_eq_zero_iff] at this
  rw [this]
 rw [this]
 rfl
attribute [go_sem] aau
theorem yh (n:Int):∀ xs:List Int,n ∈ xs->mM (iN xs) .i64 n (Bo true)=some (iN xs)
 |[],h=>by simp at h
 |x::xs,h=>by
  simp only [iN,List.map_cons,mM,if_true]
  by_cases e:n=x
  ·rw [if_pos e]
  ·rw [if_neg e]
   have ih:=yh n xs (by simpa [e] using h)
   simp only [iN] at ih
   rw [ih]
def mq (cs:List ak) (h s:Int):Bool:=decide (1<=cs.length)&&(decide (cs.length<=12)&&(decide (0<=h)&&(decide (h<cs.length)&&(decide (0<=s)&&decide (s<=cs.length)))))
def tF (cs:List ak) (h s:Nat):Bool:=(List.range cs.length).all fun i=>decide (i<s)||eqv (gt cs ((h+i) % cs.length)) zM
def gm (cs:List ak) (h s:Int):Int:=if mq cs h s=false then 1 else if tF cs h.toNat s.toNat=false then 7 else iw (dS cs h.toNat s.toNat)
structure aaw (ms:List ak) where
 j:Nat
 es:List Int
 b:Bool
 hj:j<=ms.length
 inv:eG (ms.take j)=0
 mem:∀ x,x ∈ es↔x ∈ (ids ms).take j
 hb:b= !decide (((ids ms).take j).Nodup)
theorem GL (cs:List ak) (h s:Int):Fn Tryz.prog 308 [qP cs h s] [] (I (gm cs h s)) [] []:=by
 refine Fn.aB NN (by simp) ?_
 unfold FW SC.mk'
 have bad:mq cs h s=false->gm cs h s=1:=fun e=>by unfold gm;rw [if_pos e]
 simp only [go_sem]
 by_cases c1:(cs.length:Int)<1
 ·simp only [c1,decide_true,go_sem]
  exact Fin.aQ _ rfl rfl rfl (by rw [bad (by simp [mq];omega)];rfl)
 by_cases c2:(12:Int)<cs.length
 ·simp only [c1,c2,decide_true,decide_false,go_sem]
  exact Fin.aQ _ rfl rfl rfl (by rw [bad (by simp [mq];omega)];rfl)
 by_cases c3:h<0
 ·simp only [c1,c2,c3,decide_true,decide_false,go_sem]
  exact Fin.aQ _ rfl rfl rfl (by rw [bad (by simp [mq];omega)];rfl)
 by_cases c4:(cs.length:Int)<=h
 ·simp only [c1,c2,c3,c4,decide_true,decide_false,go_sem]
  exact Fin.aQ _ rfl rfl rfl (by rw [bad (by simp [mq];omega)];rfl)
 by_cases c5:s<0
 ·simp only [c1,c2,c3,c4,c5,decide_true,decide_false,go_sem]
  exact Fin.aQ _ rfl rfl rfl (by rw [bad (by simp [mq];omega)];rfl)
 by_cases c6:(cs.length:Int)<s
 ·simp only [c1,c2,c3,c4,c5,c6,decide_true,decide_false,go_sem]
  exact Fin.aQ _ rfl rfl rfl (by rw [bad (by simp [mq];omega)];rfl)
 simp only [c1,c2,c3,c4,c5,c6,decide_false,go_sem]
 have hok:mq cs h s=true:=by simp [mq];omega
 obtain ⟨h,rfl⟩:∃ h':Nat,h=h':=⟨h.toNat,by omega⟩
 obtain ⟨s,rfl⟩:∃ s':Nat,s=s':=⟨s.toNat,by omega⟩
 have hn:0<cs.length:=by omega
 refine go_loop (fun j:{j:Nat // s<=j/\j<=cs.length/\∀ i,s<=i->i<j->eqv (gt cs ((h+i) % cs.length)) zM=true}=>⟨1000,[(1,.ptr 8 0),(3,I cs.length),(4,I j.1)],[(8,.box [mg cs,I h,I s])]⟩) (fun j=>cs.length - j.1) ⟨s,by omega,by omega,fun i h1 h2=>by omega⟩
  (Wk.mk [(8,8)] [] rfl rfl (by simp only [bq,aR,au,rv,go_sem]) (by simp only [go_sem]) (by simp only [rv,go_sem];try simp)) ?_
 intro j B hB
 have hj:=j.2
 simp only [go_sem]
 refine dQ (fun h4=> ?_) (fun h4=> ?_)<;>simp only [h4,go_sem]
 ·have e1:j.1<cs.length:=by simp only [decide_eq_true_eq] at h4;omega
  refine dV (GI cs h j.1 s (by omega) (by omega) hn) rfl rfl ?_
  have e2:(h+j.1) % cs.length<cs.length:=Nat.mod_lt _ hn
  simp only [GJ e2,go_sem]
  refine ⟨⟨by omega,by omega⟩,rfl,?_⟩
  cases h5:eqv (gt cs ((h+j.1) % cs.length)) zM with
  |false=>
   simp only [Bool.not_false,go_sem]
   refine Fin.aQ _ rfl rfl rfl ?_
   have hz:tF cs h s=false:=by
    rw [Bool.eq_false_iff]
    intro hr
    simp only [tF,List.all_eq_true,List.mem_range,Bool.or_eq_true,decide_eq_true_eq] at hr
    rcases hr j.1 e1 with h6|h6
    ·omega
    ·rw [h5] at h6;cases h6
   have hv:gm cs h s=7:=by
    unfold gm
    rw [if_neg (by simp [hok]),Int.toNat_natCast,Int.toNat_natCast,if_pos hz]
   rw [hv]
   rfl
  |true=>
   simp only [Bool.not_true,cZ (show j.1<=100000 by omega),go_sem]
   refine hB _ ⟨j.1+1,by omega,e1,fun i h6 h7=> ?_⟩ (by simp only;omega) (Wk.mk [(8,8)] [] rfl rfl (by simp only [bq,aR,au,rv,go_sem]) (by simp only [go_sem]) (by simp only [rv,go_sem]))
   rcases Nat.lt_or_ge i j.1 with h8|h8
   ·exact hj.2.2 i h6 h8
   ·rw [show i=j.1 by omega];exact h5
 ·have e1:j.1=cs.length:=by simp only [decide_eq_false_iff_not] at h4;omega
  have hz:tF cs h s=true:=by
   simp only [tF,List.all_eq_true,List.mem_range,Bool.or_eq_true,decide_eq_true_eq]
   intro i hi
   by_cases hs:i<s
   ·exact .inl hs
   ·exact .inr (hj.2.2 i (by omega) (by omega))
  have hv:gm cs h s=iw (dS cs h s):=by
   unfold gm
   rw [if_neg (by simp [hok]),Int.toNat_natCast,Int.toNat_natCast,if_neg (by simp [hz])]
  rw [hv]
  have hol:=mo cs h s
  refine aS (Ot cs h s (by omega) (by omega) hn) rfl rfl ?_
  generalize dS cs h s=ms at hol ⊢
  simp only [go_sem]
  refine go_loop (fun q:aaw ms=>⟨2000,[(5,.mp 1500),(6,Bo q.b),(59,mg ms),(60,I ms.length),(61,I q.j)],[(1500,.map (iN q.es))]⟩) (fun q=>ms.length - q.j) ⟨0,[],false,by omega,rfl,by simp,by simp⟩
   (Wk.mk [(1500,1024)] [] rfl rfl (by simp only [bq,aR,iN,List.map_nil,go_sem]) (by simp only [go_sem]) (by simp only [rv,go_sem];try simp)) ?_
  intro q B hB
  have hj:=q.hj
  simp only [go_sem]
  refine dQ (fun h4=> ?_) (fun h4=> ?_)<;>simp only [h4,go_sem]
  ·have e1:q.j<ms.length:=by simp only [decide_eq_true_eq] at h4;omega
   have e2:q.j<(ids ms).length:=by rw [tu];exact e1
   have e3:(ids ms)[q.j]=ms[q.j].id:=by simp [ids]
   have e4:=Oi e1 q.inv
   have hq:0<=(q.j:Int)/\(q.j:Int)<(ms.length:Int):=⟨by omega,by omega⟩
   simp only [Int.toNat_natCast,x9 e1,go_sem]
   refine ⟨hq,?_⟩
   refine aS (GA _) rfl rfl ?_
   simp only [go_sem]
   refine dQ (fun h2=> ?_) (fun h2=> ?_)<;>simp only [h2,go_sem]
   ·have e5:ms[q.j].val≠0:=by simpa using h2
    refine Fin.aQ _ rfl rfl rfl ?_
    simp only [aD,iw,e4.2 e5,if_pos e5]
   ·have e5:ms[q.j].val=0:=by simpa using h2
    have e6:(ids ms).take (q.j+1)=(ids ms).take q.j++[ms[q.j].id]:=by rw [List.take_succ_eq_append_getElem e2,e3]
    have e7:=yc e2
    rw [e3] at e7
    have hmem:∀ x,x ∈ q.es++[ms[q.j].id]↔x ∈ (ids ms).take (q.j+1):=fun x=>by rw [e6];simp only [List.mem_append,List.mem_singleton,q.mem]
    have hb:=q.hb
    by_cases h6:ms[q.j].id ∈ q.es
    ·have h7:ms[q.j].id ∈ (ids ms).take q.j:=(q.mem _).1 h6
     have nb:decide (((ids ms).take (q.j+1)).Nodup)=false:=by simp [e7,h7]
     have yj:∀ x,x ∈ q.es↔x ∈ (ids ms).take (q.j+1):=fun x=>by
      rw [<-hmem x];simp only [List.mem_append,List.mem_singleton]
      exact ⟨.inl,fun h=>h.elim id (fun h=>h▸h6)⟩
     cases h8:q.b with
     |true=>
      simp only [ak.enc,yh _ _ h6,cZ (show q.j<=100000 by omega),go_sem]
      exact hB _ ⟨q.j+1,q.es,true,e1,e4.1.trans e5,yj,by rw [nb];rfl⟩ (by simp only;omega) (Wk.mk [(1500,1500)] [] rfl rfl (by simp only [bq,aR,go_sem]) (by simp only [go_sem]) (by simp only [rv,go_sem]))
     |false=>
      simp only [ak.enc,vF,h6,if_true,Option.getD_some,yh _ _ h6,cZ (show q.j<=100000 by omega),go_sem]
      exact hB _ ⟨q.j+1,q.es,true,e1,e4.1.trans e5,yj,by rw [nb];rfl⟩ (by simp only;omega) (Wk.mk [(1500,1500)] [] rfl rfl (by simp only [bq,aR,go_sem]) (by simp only [go_sem]) (by simp only [rv,go_sem]))
    ·have h7:ms[q.j].id ∉ (ids ms).take q.j:=fun h=>h6 ((q.mem _).2 h)
     cases h8:q.b with
     |true=>
      rw [h8] at hb
      have nb:decide (((ids ms).take (q.j+1)).Nodup)=false:=by
       have:¬ ((ids ms).take q.j).Nodup:=by simpa using hb.symm
       simp [e7,this]
      simp only [ak.enc,vG _ _ h6,cZ (show q.j<=100000 by omega),go_sem]
      exact hB _ ⟨q.j+1,q.es++[ms[q.j].id],true,e1,e4.1.trans e5,hmem,by rw [nb];rfl⟩ (by simp only;omega) (Wk.mk [(1500,1500)] [] rfl rfl (by simp only [bq,aR,go_sem]) (by simp only [go_sem]) (by simp only [rv,go_sem]))
     |false=>
      rw [h8] at hb
      have nb:decide (((ids ms).take (q.j+1)).Nodup)=true:=by
       have:((ids ms).take q.j).Nodup:=by simpa using hb.symm
       simp [e7,this,h7]
      simp only [ak.enc,vF,h6,if_false,Option.getD_none,vG _ _ h6,cZ (show q.j<=100000 by omega),go_sem]
      exact hB _ ⟨q.j+1,q.es++[ms[q.j].id],false,e1,e4.1.trans e5,hmem,by rw [nb];rfl⟩ (by simp only;omega) (Wk.mk [(1500,1500)] [] rfl rfl (by simp only [bq,aR,go_sem]) (by simp only [go_sem]) (by simp only [rv,go_sem]))
  ·have e1:q.j=ms.length:=by simp only [decide_eq_false_iff_not] at h4;omega
   have hb:=q.hb
   rw [e1,List.take_of_length_le (by rw [tu];omega)] at hb
   have hi:=q.inv
   rw [e1,List.take_length] at hi
   have hd:q.b=dup ms:=hb
   refine dQ (fun h5=> ?_) (fun h5=> ?_)<;>simp only [h5,go_sem]
   ·refine Fin.aQ _ rfl rfl rfl ?_
    rw [h5] at hd
    simp only [aD,iw,hi,<-hd,ne_eq,not_true_eq_false,if_false,if_true]
   ·refine Fin.aQ _ rfl rfl rfl ?_
    rw [h5] at hd
    simp only [aD,iw,hi,<-hd,ne_eq,not_true_eq_false,if_false]
    rfl
theorem A8 {cs:List ak} {h s:Int} (e:gm cs h s=0):∃ (h':Nat) (l:List ak),h=h'/\s=(l.length:Int)/\cs=iy cs.length h' l/\1<=cs.length/\cs.length<=12/\h'<cs.length/\l.length<=cs.length/\iw l=0/\l=dS cs h' l.length:=by
 unfold gm at e
 split at e
 ·cases e
 ·rename_i h1
  split at e
  ·cases e
  ·rename_i h2
   simp only [Bool.not_eq_false] at h1 h2
   simp only [mq,Bool.and_eq_true,decide_eq_true_eq] at h1
   simp only [tF,List.all_eq_true,List.mem_range,Bool.or_eq_true,decide_eq_true_eq] at h2
   refine ⟨h.toNat,dS cs h.toNat s.toNat,by omega,by rw [mo];omega,?_,by omega,by omega,by omega,by rw [mo];omega,e,by rw [mo]⟩
   refine (aam (by omega) (by omega) fun i hi hn=> ?_).symm
   rcases h2 i hn with h3|h3
   ·omega
   ·exact aav h3
structure Rg (n h:Nat) (l:List ak):Prop where
 n1:1<=n
 n2:n<=12
 hh:h<n
 ll:l.length<=n
 snd:iw l=0
theorem Rg.ok {n h:Nat} {l:List ak} (r:Rg n h l):gm (iy n h l) h l.length=0:=by
 have:=r.n1;have:=r.n2;have:=r.hh;have:=r.ll
 unfold gm
 rw [if_neg (by simp [mq,o5];omega),if_neg]
 ·rw [Int.toNat_natCast,Int.toNat_natCast,GH r.ll r.hh];exact r.snd
 ·simp only [Bool.not_eq_false,tF,List.all_eq_true,List.mem_range,Bool.or_eq_true,decide_eq_true_eq,o5,Int.toNat_natCast]
  intro i hi
  by_cases h1:i<l.length
  ·exact .inl h1
  ·right
   rw [Om l hi r.hh,Oj (by omega)]
   exact Ov _
def vH (cs:List ak) (h s:Int):List ak:=if gm cs h s≠0 then [] else dS cs h.toNat s.toNat
theorem aax (cs:List ak) (h s:Int):Fn Tryz.prog 223 [qP cs h s] [] (mg (vH cs h s)) [] []:=by
 refine Fn.aB AL (by simp) ?_
 unfold xV SC.mk' vH
 simp only [go_sem]
 refine aS (GL cs h s) rfl rfl ?_
 simp only [go_sem]
 refine dQ (fun h1=> ?_) (fun h1=> ?_)<;>simp only [h1,go_sem]
 ·have e:gm cs h s≠0:=by simpa using h1
  rw [if_pos e]
  exact Fin.bA _ rfl rfl (by simp only [aD,rv,dK,List.map_nil,go_sem])
 ·have e:gm cs h s=0:=by simpa using h1
  rw [if_neg (show ¬ gm cs h s≠0 from fun h=>h e)]
  obtain ⟨h',l,rfl,rfl,_,e1,e2,e3,e4,_,e5⟩:=A8 e
  refine aS (Ot cs h' l.length (by omega) (by omega) (by omega)) rfl rfl ?_
  simp only [Int.toNat_natCast,go_sem]
  exact Fin.aQ _ rfl rfl rfl rfl
end Go.Eng
namespace Go.Eng
open Go Go.Proofs
attribute [local go_sem] Int.cast_ofNat_Int Int.reduceBEq Int.reduceLT Int.reduceLE Int.reduceSub Int.reduceAdd Int.reduceNeg Int.reduceEq Int.reduceToNat decide_true decide_false decide_eq_true_eq beq_self_eq_true bne_self_eq_false List.reduceReplicate List.length_set List.length_replicate List.length_cons List.length_nil List.set_cons_zero List.set_cons_succ Int.toNat_natCast
theorem GN (cs:List ak):(dK cs).take cs.length=dK cs:=by rw [<-xZ,List.take_length]
theorem aay (n h:Nat) (l:List ak):(dK (iy n h l)).take n=dK (iy n h l):=by have:=GN (iy n h l);rwa [o5] at this
theorem aaz (m:ak):m.enc.drop 7=[]:=rfl
theorem aaA (h:List (Nat×Ob)) (S:List (Nat×Nat)) (N:List Nat) (m:ak):au h S N m.enc m.enc:=ic _ rfl
attribute [go_sem] GN aay o5 aaz aaA
theorem aaB {cs:List ak} {h s:Int} (e:gm cs h s=0):∃ (n h':Nat) (l:List ak),Rg n h' l/\cs=iy n h' l/\h=h'/\s=(l.length:Int):=by
 obtain ⟨h',l,h1,h2,h3,h4,h5,h6,h7,h8,_⟩:=A8 e
 exact ⟨cs.length,h',l,⟨h4,h5,h6,h7,h8⟩,h3,h1,h2⟩
def vI (cs:List ak) (h s:Int) (m:ak):Int:=
 if gm cs h s≠0 then gm cs h s else if m.val≠0 then m.val else if s=cs.length then 3 else if 0<=jZ (dS cs h.toNat s.toNat) m.id then 10 else 0
def newR (k:Int):AV:=if k<1 then .aN [qP [] 0 0,I 1] else if 12<k then .aN [qP [] 0 0,I 1] else .aN [aal k.toNat 0 [],I 0]
theorem aaC (k:Int):Fn Tryz.prog 123 [I k] [] (newR k) [] []:=by
 refine Fn.aB MO (by simp) ?_
 unfold EO SC.mk' newR
 simp only [go_sem]
 by_cases h1:k<1
 ·simp only [h1,decide_true,if_true,go_sem]
  exact Fin.bA _ rfl rfl (by simp only [aD,rv,au,dK,List.map_nil,go_sem])
 by_cases h2:12<k
 ·simp only [h1,h2,decide_true,decide_false,if_true,if_false,go_sem]
  exact Fin.bA _ rfl rfl (by simp only [aD,rv,au,dK,List.map_nil,go_sem])
 simp only [h1,h2,decide_false,if_false,go_sem]
 refine ⟨⟨by omega,by omega,by omega⟩,Fin.bA _ rfl rfl ?_⟩
 have e:dK (iy k.toNat 0 [])=List.replicate k.toNat [AV.v (.int .i64 0),.v (.int .i64 0),.v (.int .i64 0),.v (.int .i64 0),.v (.int .i64 0),.v (.int .i64 0),.v (.string ⟨#[]⟩)]:=by rw [aak];simp [dK,ak.enc,zM]
 simp only [aD,rv,au,e,List.take_replicate,Nat.min_self,List.length_replicate,List.drop_zero,List.map_nil,List.not_mem_nil,not_false_eq_true,true_and,go_sem]
 simp
theorem aaD {cs:List ak} {h s:Int} {m:ak} (e:vI cs h s m=0):gm cs h s=0/\s≠cs.length/\m.val=0/\¬ 0<=jZ (dS cs h.toNat s.toNat) m.id:=by
 unfold vI at e
 by_cases h1:gm cs h s=0
 ·by_cases h2:m.val=0
  ·by_cases h3:s=cs.length
   ·rw [if_neg (by simp [h1]),if_neg (by simp [h2]),if_pos h3] at e;cases e
   ·rw [if_neg (by simp [h1]),if_neg (by simp [h2]),if_neg h3] at e
    by_cases h4:0<=jZ (dS cs h.toNat s.toNat) m.id
    ·rw [if_pos h4] at e;cases e
    ·exact ⟨h1,h3,h2,h4⟩
  ·rw [if_neg (by simp [h1]),if_pos h2] at e;exact absurd e h2
 ·rw [if_pos h1] at e;exact absurd e h1
end Go.Eng
namespace Go.Eng
open Go Go.Proofs
attribute [local go_sem] Int.cast_ofNat_Int Int.reduceBEq Int.reduceLT Int.reduceLE Int.reduceSub Int.reduceAdd Int.reduceNeg Int.reduceEq Int.reduceToNat decide_true decide_false decide_eq_true_eq beq_self_eq_true bne_self_eq_false List.reduceReplicate List.length_set List.length_replicate List.length_cons List.length_nil List.set_cons_zero List.set_cons_succ Int.toNat_natCast
theorem aaE (n h:Nat) (f:Nat->ak):(dK (mh n h f)).take n=dK (mh n h f):=by have:=GN (mh n h f);rwa [yg] at this
attribute [go_sem] aaE yg
end Go.Eng
namespace Go.Eng
open Go Go.Proofs
attribute [local go_sem] Int.cast_ofNat_Int Int.reduceBEq Int.reduceLT Int.reduceLE Int.reduceSub Int.reduceAdd Int.reduceNeg Int.reduceEq Int.reduceToNat decide_true decide_false decide_eq_true_eq beq_self_eq_true bne_self_eq_false List.reduceReplicate List.length_set List.length_replicate List.length_cons List.length_nil List.set_cons_zero List.set_cons_succ Int.toNat_natCast
end Go.Eng
namespace Go.Eng
open Go Go.Proofs
attribute [local go_sem] Int.cast_ofNat_Int Int.reduceBEq Int.reduceLT Int.reduceLE Int.reduceSub Int.reduceAdd Int.reduceNeg Int.reduceEq Int.reduceToNat decide_true decide_false decide_eq_true_eq beq_self_eq_true bne_self_eq_false List.reduceReplicate List.length_set List.length_replicate List.length_cons List.length_nil List.set_cons_zero List.set_cons_succ Int.toNat_natCast
end Go.Eng
namespace Go.Eng
open Go Go.Proofs
attribute [local go_sem] Int.cast_ofNat_Int Int.reduceBEq Int.reduceLT Int.reduceLE Int.reduceSub Int.reduceAdd Int.reduceNeg Int.reduceEq Int.reduceToNat decide_true decide_false decide_eq_true_eq beq_self_eq_true bne_self_eq_false List.reduceReplicate List.length_set List.length_replicate List.length_cons List.length_nil List.set_cons_zero List.set_cons_succ Int.toNat_natCast
theorem aaF {l:List ak} (h:eG l=0) (k:Nat):eG (l.take k)=0:=by
 induction l generalizing k with
 |nil=>simp [eG]
 |cons m l ih=>
  cases k with
  |zero=>rfl
  |succ k=>
   simp only [List.take_succ_cons,eG] at h ⊢
   by_cases hm:m.val≠0
   ·rw [if_pos hm] at h;exact absurd h hm
   ·rw [if_neg hm] at h ⊢;exact ih h k
theorem Ow {l:List ak} (h:iw l=0):eG l=0/\dup l=false:=by
 unfold iw at h
 by_cases h1:eG l=0
 ·rw [if_neg (fun hx=>hx h1)] at h
  refine ⟨h1,?_⟩
  cases hd:dup l with
  |true=>rw [hd] at h;simp at h
  |false=>rfl
 ·rw [if_pos h1] at h;exact absurd h h1
theorem Ox {l:List ak} (h1:eG l=0) (h2:dup l=false):iw l=0:=by
 unfold iw
 rw [if_neg (fun hx=>hx h1),h2];rfl
theorem Oy {l:List ak} (h:dup l=false):(ids l).Nodup:=by simpa [dup] using h
theorem Rg.take {n h:Nat} {l:List ak} (rg:Rg n h l) (k:Nat):Rg n h (l.take k):=by
 obtain ⟨h1,h2⟩:=Ow rg.snd
 refine ⟨rg.n1,rg.n2,rg.hh,by have:=rg.ll;simp only [List.length_take];omega,Ox (aaF h1 k) ?_⟩
 have e:ids (l.take k)=(ids l).take k:=by simp [ids,List.map_take]
 simp only [dup,e,Bool.not_eq_false',decide_eq_true_eq]
 exact (Oy h2).sublist (List.take_sublist _ _)
theorem aaG {l ms:List ak} (h:eG l=0):eG (l++ms)=eG ms:=by
 induction l with
 |nil=>rfl
 |cons m l ih=>
  simp only [List.cons_append,eG] at h ⊢
  by_cases hm:m.val≠0
  ·rw [if_pos hm] at h;exact absurd h hm
  ·rw [if_neg hm] at h ⊢;exact ih h
theorem Rg.push {n h:Nat} {l:List ak} {m:ak} (rg:Rg n h l) (e:vI (iy n h l) h l.length m=0):Rg n h (l++[m]):=by
 obtain ⟨_,h2,h3,h4⟩:=aaD e
 obtain ⟨i1,i2⟩:=Ow rg.snd
 rw [o5] at h2
 rw [Int.toNat_natCast,Int.toNat_natCast,GH rg.ll rg.hh] at h4
 have hni:m.id ∉ ids l:=fun hx=>h4 (by unfold jZ;rw [if_pos hx];omega)
 refine ⟨rg.n1,rg.n2,rg.hh,by have:=rg.ll;simp;omega,Ox ?_ ?_⟩
 ·rw [aaG i1];simp [eG,h3]
 ·have:(ids (l++[m])).Nodup:=by
   simp only [ids,List.map_append,List.map_cons,List.map_nil,List.nodup_append]
   refine ⟨Oy i2,by simp,fun a ha b hb=> ?_⟩
   simp only [List.mem_singleton] at hb
   subst hb
   intro e;subst e;exact hni ha
  simp [dup,this]
def GQ (n h:Nat):List ak->List ak->Int×List ak
 |l,[]=>(0,l)
 |l,m::ms=>if vI (iy n h l) h l.length m≠0 then (vI (iy n h l) h l.length m,l) else GQ n h (l++[m]) ms
structure af0 (n h:Nat) (l0 ms:List ak) where
 j:Nat
 l:List ak
 hj:j<=ms.length
 rg:Rg n h l
 eq:GQ n h l0 ms=GQ n h l (ms.drop j)
end Go.Eng
namespace Go.Eng
open Go Go.Proofs
attribute [local go_sem] Int.cast_ofNat_Int Int.reduceBEq Int.reduceLT Int.reduceLE Int.reduceSub Int.reduceAdd Int.reduceNeg Int.reduceEq Int.reduceToNat decide_true decide_false decide_eq_true_eq beq_self_eq_true bne_self_eq_false List.reduceReplicate List.length_set List.length_replicate List.length_cons List.length_nil List.set_cons_zero List.set_cons_succ Int.toNat_natCast
end Go.Eng
namespace Go.Eng
open Go Go.Proofs
attribute [local go_sem] Int.cast_ofNat_Int Int.reduceBEq Int.reduceLT Int.reduceLE Int.reduceSub Int.reduceAdd Int.reduceNeg Int.reduceEq Int.reduceToNat decide_true decide_false decide_eq_true_eq beq_self_eq_true bne_self_eq_false List.reduceReplicate List.length_set List.length_replicate List.length_cons List.length_nil List.set_cons_zero List.set_cons_succ Int.toNat_natCast
end Go.Eng
namespace Go.Eng
open Go Go.Proofs
attribute [local go_sem] Int.cast_ofNat_Int Int.reduceBEq Int.reduceLT Int.reduceLE Int.reduceSub Int.reduceAdd Int.reduceNeg Int.reduceEq Int.reduceToNat decide_true decide_false decide_eq_true_eq beq_self_eq_true bne_self_eq_false List.reduceReplicate List.length_set List.length_replicate List.length_cons List.length_nil List.set_cons_zero List.set_cons_succ Int.toNat_natCast
def A9 (k ep:Int) (q:List ak×List ak) (m:ak):List ak×List ak:=
 if (q.1.length:Int)<k then (if m.epoch<ep then (q.1,q.2++[m]) else (q.1++[m],q.2)) else (q.1,q.2++[m])
def tk (k ep:Int) (ms:List ak):List ak×List ak:=ms.foldl (A9 k ep) ([],[])
theorem aaH (k ep:Int) (ms:List ak):(tk k ep ms).1.length+(tk k ep ms).2.length=ms.length:=by
 have key:∀ (ms:List ak) (q:List ak×List ak),(ms.foldl (A9 k ep) q).1.length+(ms.foldl (A9 k ep) q).2.length=q.1.length+q.2.length+ms.length:=by
  intro ms
  induction ms with
  |nil=>intro q;simp
  |cons m ms ih=>
   intro q
   rw [List.foldl_cons,ih]
   unfold A9
   repeat' split
   all_goals simp
   all_goals omega
 have:=key ms ([],[])
 unfold tk
 simpa using this
def prg (ep:Int) (m:ak):Bool:=decide (m.epoch<ep)
def keep (ep:Int) (ms:List ak):List ak:=ms.filter fun m=> !prg ep m
theorem aaJ:((0:Int) !=0)=false:=rfl
theorem aaK:((10:Int) !=0)=true:=rfl
attribute [go_sem] aaJ aaK
end Go.Eng
namespace Go.Eng
open Go Go.Proofs
end Go.Eng
namespace Go.Eng
open Go
def hs (h x:Nat):Nat:=((h ^^^ x)*16777619) % 4294967296
def Oz (h:Nat):List UInt8->Nat
 |[]=>h
 |x::b=>Oz (hs h x.toNat) b
def chk (b:List UInt8):Nat:=Oz 2166136261 (90::b)
def be (n:Nat):Nat->Nat->List UInt8
 |_,0=>[]
 |s,q+1=>be n s q++[(n / 2 ^ (8*(s - 1 - q))).toUInt8]
def qQ (n s:Nat):List UInt8:=be n s s
def byN (b:List UInt8) (i:Nat):Nat:=(b[i]?.getD 0).toNat
def gN (b:List UInt8) (a:Nat):Nat->Nat
 |0=>0
 |j+1=>gN b a j*256+byN b (a+j)
def Hd.ok (h:Hd):Prop:=(1<=h.id/\h.id<=1073741824)/\(1<=h.gen/\h.gen<=65536)/\(0<=h.route/\h.route<65536)/\(0<=h.hint/\h.hint<6)
instance (h:Hd):Decidable h.ok:=by unfold Hd.ok;exact inferInstance
def OA (h:Hd):List UInt8:=[113]++qQ h.id.toNat 4++qQ h.gen.toNat 3++qQ h.route.toNat 2++[h.hint.toNat.toUInt8,0]
def GR (h:Hd):List UInt8:=OA h++qQ (chk (OA h)) 4
def GU (b:List UInt8):Hd:=⟨gN b 1 4,gN b 5 3,gN b 8 2,gN b 10 1⟩
def parse (b:List UInt8):Option Hd:=if b.length=16/\(GU b).ok/\GR (GU b)=b then some (GU b) else none
theorem aaN {b:List UInt8} {h:Hd} (e:parse b=some h):h.ok:=by
 unfold parse at e
 split at e
 ·rename_i c;cases e;exact c.2.1
 ·cases e
def flip (b:List UInt8):List UInt8:=b.set (b.length - 1) ((b[b.length - 1]?.getD 0) ^^^ 1)
end Go.Eng
namespace Go.Eng
open Go Go.Proofs
attribute [local go_sem] Int.cast_ofNat_Int Int.reduceBEq Int.reduceLT Int.reduceLE Int.reduceSub Int.reduceAdd Int.reduceNeg Int.reduceEq Int.reduceToNat decide_true decide_false decide_eq_true_eq beq_self_eq_true bne_self_eq_false List.reduceReplicate List.length_set List.length_replicate List.length_cons List.length_nil List.set_cons_zero List.set_cons_succ Int.toNat_natCast
theorem aaO (b:List UInt8) (k:Nat):(qM b).take k=qM (b.take k):=by simp [qM,List.map_take]
theorem aaP (b:List UInt8):(qM b).take b.length=qM b:=by rw [aaO,List.take_length]
attribute [go_sem] Od aaP
end Go.Eng
namespace Go.Eng
open Go Go.Proofs
attribute [local go_sem] Int.cast_ofNat_Int Int.reduceBEq Int.reduceLT Int.reduceLE Int.reduceSub Int.reduceAdd Int.reduceNeg Int.reduceEq Int.reduceToNat decide_true decide_false decide_eq_true_eq beq_self_eq_true bne_self_eq_false List.reduceReplicate List.length_set List.length_replicate List.length_cons List.length_nil List.set_cons_zero List.set_cons_succ Int.toNat_natCast
def hd1 (id:Nat):List UInt8:=[113]++qQ id 4
def hd2 (id gen:Nat):List UInt8:=hd1 id++qQ gen 3
def hd3 (id gen route:Nat):List UInt8:=hd2 id gen++qQ route 2
end Go.Eng
namespace Go.Eng
open Go Go.Proofs
def hN (id gen route hint:Nat):Nat->Nat
 |0=>id
 |1=>gen
 |2=>route
 |3=>hint
 |_=>0
def hS:Nat->Nat
 |0=>4
 |1=>3
 |2=>2
 |_=>1
def hP (id gen route hint:Nat):Nat->List UInt8
 |0=>[113]
 |j+1=>hP id gen route hint j++qQ (hN id gen route hint j) (hS j)
attribute [local go_sem] Int.cast_ofNat_Int Int.reduceBEq Int.reduceLT Int.reduceLE Int.reduceSub Int.reduceAdd Int.reduceNeg Int.reduceEq Int.reduceToNat decide_true decide_false decide_eq_true_eq beq_self_eq_true bne_self_eq_false List.reduceReplicate List.length_set List.length_replicate List.length_cons List.length_nil List.set_cons_zero List.set_cons_succ Int.toNat_natCast
end Go.Eng
namespace Go.Eng
open Go Go.Proofs
attribute [local go_sem] Int.cast_ofNat_Int Int.reduceBEq Int.reduceLT Int.reduceLE Int.reduceSub Int.reduceAdd Int.reduceNeg Int.reduceEq Int.reduceToNat decide_true decide_false decide_eq_true_eq beq_self_eq_true bne_self_eq_false List.reduceReplicate List.length_set List.length_replicate List.length_cons List.length_nil List.set_cons_zero List.set_cons_succ Int.toNat_natCast
end Go.Eng
