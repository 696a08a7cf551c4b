/-
  Part of a proof: lemmas and definitions of this work.
  No condition.
-/
import Derived.Test.YthhjbngoibmpgaaGreatA08
import Derived.Test.YthhjbngoibmpgaaGreatA10
import Derived.Test.YthhjbngoibmpgaaGreatA04
import Derived.Laws.BitsLemmas
import Derived.Laws.Bits64
set_option linter.all false
set_option maxRecDepth 100000
set_option maxHeartbeats 8000000
namespace Go.Eng
open Go Go.Proofs
attribute [local go_sem] Int.cast_ofNat_Int Int.reduceBEq Int.reduceLT Int.reduceLE Int.reduceSub Int.reduceAdd Int.reduceNeg Int.reduceEq Int.reduceToNat decide_true decide_false decide_eq_true_eq beq_self_eq_true bne_self_eq_false List.reduceReplicate List.length_set List.length_replicate List.length_cons List.length_nil List.set_cons_zero List.set_cons_succ Int.toNat_natCast
def M7 (c:Int) (ms ls:List ai):AV:=
 if iA c ms≠0 then .aF [jT 0 [],I (iA c ms)] else if c - ms.length<ls.length then .aF [jT 0 [],I 3] else if fC ls≠0 then .aF [jT 0 [],I (fC ls)]
 else if dup (ms++ls)=true then .aF [jT 0 [],I 10] else .aF [jT c (ms++ls),I 0]
def wL (k ep:Int) (q:List ai×List ai) (m:ai):List ai×List ai:=
 if (q.1.length:Int)<k then (if m.epoch<ep then (q.1,q.2++[m]) else (q.1++[m],q.2)) else (q.1,q.2++[m])
def tk (k ep:Int) (ms:List ai):List ai×List ai:=ms.foldl (wL k ep) ([],[])
theorem akA (k ep:Int) {ms:List ai} {j:Nat} (h:j<ms.length):tk k ep (ms.take (j+1))=wL k ep (tk k ep (ms.take j)) ms[j]:=by
 unfold tk
 rw [List.take_succ_eq_append_getElem h,List.foldl_append]
 rfl
theorem VK (k ep:Int) (ms:List ai):(tk k ep ms).1.length+(tk k ep ms).2.length=ms.length:=by
 have key:∀ (ms:List ai) (q:List ai×List ai),(ms.foldl (wL k ep) q).1.length+(ms.foldl (wL k ep) q).2.length=q.1.length+q.2.length+ms.length:=by
  intro ms
  induction ms with
  |nil=>intro q;simp
  |cons m ms ih=>
   intro q
   rw [List.foldl_cons,ih]
   unfold wL
   repeat' split
   all_goals simp
   all_goals omega
 have:=key ms ([],[])
 unfold tk
 simpa using this
def takeA (c:Int) (ms:List ai) (k ep:Int):AV:=
 if wJ c ms ep≠0 then .aF [jT 0 [],fP [],I (wJ c ms ep)] else if k<0 then .aF [jT 0 [],fP [],I 1] else .aF [jT c (tk k ep ms).2,fP (tk k ep ms).1,I 0]
def AY (ep:Int) (m:ai):Bool:=decide (m.epoch<ep)
def keep (ep:Int) (ms:List ai):List ai:=ms.filter fun m=> !AY ep m
theorem akB {ep:Int} {ms:List ai} {j:Nat} (h:j<ms.length):keep ep (ms.take (j+1))=if AY ep ms[j] then keep ep (ms.take j) else keep ep (ms.take j)++[ms[j]]:=by
 unfold keep
 rw [List.take_succ_eq_append_getElem h,List.filter_append]
 cases hp:AY ep ms[j]<;>simp [hp]
theorem akC (ep:Int) (ms:List ai) (j:Nat):(keep ep (ms.take j)).length<=j:=by
 have:=List.length_filter_le (fun m=> !AY ep m) (ms.take j)
 simp only [List.length_take] at this
 unfold keep
 omega
def M8 (c:Int) (ms:List ai) (ep:Int):AV:=
 if wJ c ms ep≠0 then .aF [jT 0 [],I 0,I (wJ c ms ep)] else .aF [jT c (keep ep ms),I ((ms.length:Int) - (keep ep ms).length),I 0]
theorem akD (ep:Int) (ms:List ai):(keep ep ms).length<=ms.length:=List.length_filter_le _ _
theorem akE:((0:Int) !=0)=false:=rfl
theorem akF:((10:Int) !=0)=true:=rfl
attribute [go_sem] akE akF
theorem akG (c:Int) (ms ls:List ai) (hl:ms.length<=10000) (hl':ls.length<=10000):Fn Tryz.prog 117 [jT c ms,fP ls] [] (M7 c ms ls) [] []:=by
 refine Fn.aO aiv (by simp) ?_
 unfold Q6 SC.mk' M7
 simp only [go_sem]
 refine aQ (Di c ms (by omega)) rfl rfl ?_
 simp only [go_sem]
 refine bC (fun h1=> ?_) (fun h1=> ?_)<;>simp only [h1,go_sem]
 ·have e:iA c ms≠0:=by simpa using h1
  rw [if_pos e]
  exact Fin.aD _ rfl rfl (by simp only [ay,rv,au,bN,List.map_nil,go_sem])
 have e:iA c ms=0:=by simpa using h1
 have e0:=AP e
 rw [if_neg (show ¬ iA c ms≠0 from fun h=>h e)]
 refine aQ (abm c ms (by omega)) rfl rfl ?_
 have er:yH c ms=c - ms.length:=by unfold yH;rw [if_neg (fun h=>h e)]
 simp only [er,go_sem]
 refine bC (fun h2=> ?_) (fun h2=> ?_)<;>simp only [h2,go_sem]
 ·have e2:c - ms.length<ls.length:=by simpa using h2
  rw [if_pos e2]
  exact Fin.aD _ rfl rfl (by simp only [ay,rv,au,bN,List.map_nil,go_sem])
 have e2:¬ c - ms.length<ls.length:=by simpa using h2
 rw [if_neg e2]
 have m1:ms.length<=maxLen:=Nat.le_trans (show _<=20000 by omega) (by decide)
 have m2:ms.length+ls.length<=maxLen:=Nat.le_trans (show _<=20000 by omega) (by decide)
 refine ⟨⟨by omega,m1⟩,?_⟩
 by_cases hc:ms.length+ls.length<=ms.length
 ·obtain rfl:ls=[]:=List.eq_nil_of_length_eq_zero (by omega)
  have hs:iE ms=0:=by unfold iE;rw [if_neg (by simp [e0.2.2.2.1]),if_neg (by simp [e0.2.2.2.2])]
  simp only [List.length_nil,Nat.add_zero,Nat.le_refl,if_true,List.append_nil,hs,go_sem]
  refine AX (VA ms (by omega)) (by simp [au,rv,get,bN,List.take_of_length_le,List.drop_of_length_le]) rfl rfl ?_
  simp only [hs,ne_eq,not_true_eq_false,if_false,go_sem]
  exact Fin.aD _ rfl rfl (by simp [ay,rv,au,get,bN,List.take_of_length_le,List.drop_of_length_le,e0.2.2.2.2,fC])
 ·simp only [hc,if_false,go_sem]
  refine ⟨⟨by omega,m2,by omega⟩,?_⟩
  have hs:iE (ms++ls)=if fC ls≠0 then fC ls else if dup (ms++ls)=true then 10 else 0:=by unfold iE;rw [abz e0.2.2.2.1]
  refine AX (VA (ms++ls) (by simp only [List.length_append];omega)) (by simp [au,rv,get,uL,List.take_of_length_le,jv]) rfl rfl ?_
  simp only [hs,go_sem]
  by_cases h3:fC ls≠0
  ·have e3:(fC ls !=0)=true:=by simpa using h3
   simp only [if_pos h3,e3,go_sem]
   exact Fin.aD _ rfl rfl (by simp only [ay,rv,au,bN,List.map_nil,go_sem])
  by_cases h4:dup (ms++ls)=true
  ·simp only [if_neg h3,if_pos h4,go_sem]
   exact Fin.aD _ rfl rfl (by simp only [ay,rv,au,bN,List.map_nil,go_sem])
  ·simp only [if_neg h3,if_neg h4,go_sem]
   exact Fin.aD _ rfl rfl (by simp [ay,rv,au,get,uL,List.take_of_length_le,jv])
def mV (c:Int) (ms:List ai) (k ep:Int) (j:{j:Nat // j<=ms.length}):St:=
 ⟨2000,[(1,I k),(2,I ep),(3,.ptr 8 0),(6,.ptr 16 0),(10,.ptr 128 0),(11,.own 1508 7 0 (tk k ep (ms.take j.1)).1.length),(12,I j.1)],
  [(8,.box [I c,fP ms]),(16,.box [I 0,Nl]),(128,.box [I c,.own 1500 7 0 (tk k ep (ms.take j.1)).2.length]),(1500,.row 123 7 (bN (tk k ep (ms.take j.1)).2)),(1508,.row 123 7 (bN (tk k ep (ms.take j.1)).1))]⟩
theorem akH (c:Int) (ms:List ai) (k ep:Int) (hl:ms.length<=10000):Fn Tryz.prog 376 [jT c ms,I k,I ep] [] (takeA c ms k ep) [] []:=by
 refine Fn.aO ajb (by simp) ?_
 unfold UR SC.mk' takeA wJ
 simp only [go_sem]
 refine aQ (Di c ms (by omega)) rfl rfl ?_
 simp only [go_sem]
 refine bC (fun h1=> ?_) (fun h1=> ?_)<;>simp only [h1,go_sem]
 ·have e:iA c ms≠0:=by simpa using h1
  rw [if_pos e,if_pos e]
  exact Fin.aD _ rfl rfl (by simp only [ay,rv,au,bN,List.map_nil,go_sem])
 have e:iA c ms=0:=by simpa using h1
 have e0:=AP e
 rw [if_neg (show ¬ iA c ms≠0 from fun h=>h e)]
 have o1:((1:Int)≠0)=True:=by simp
 by_cases h2:k<0
 ·simp only [h2,decide_true,go_sem]
  have e5:(if (if ep<0 then (1:Int) else if 65536<ep then 1 else 0)≠0 then AV.aF [jT 0 [],fP [],I (if ep<0 then (1:Int) else if 65536<ep then 1 else 0)] else AV.aF [jT 0 [],fP [],I 1])=AV.aF [jT 0 [],fP [],I 1]:=by
   by_cases a:ep<0
   ·simp [a]
   ·by_cases b:65536<ep
    ·simp [a,b]
    ·simp [a,b]
  simp only [e5,if_true]
  exact Fin.aD _ rfl rfl (by simp only [ay,rv,au,bN,List.map_nil,go_sem])
 by_cases h3:ep<0
 ·simp only [h2,h3,o1,decide_true,decide_false,if_true,if_false,go_sem]
  exact Fin.aD _ rfl rfl (by simp only [ay,rv,au,bN,List.map_nil,go_sem])
 by_cases h4:65536<ep
 ·simp only [h2,h3,h4,o1,decide_true,decide_false,if_true,if_false,go_sem]
  exact Fin.aD _ rfl rfl (by simp only [ay,rv,au,bN,List.map_nil,go_sem])
 simp only [h2,h3,h4,decide_false,if_false,ne_eq,not_true_eq_false,go_sem]
 refine go_loop (mV c ms k ep) (fun j=>ms.length - j.1) ⟨0,by omega⟩ (Wk.mk [(8,8),(16,16),(128,184)] [1500,1508] rfl rfl
  (by simp only [mV,cZ,bO,au,rv,tk,List.take_zero,List.foldl_nil,List.length_nil,go_sem];simp) (by simp only [mV,gY,tk,bN,List.take_zero,List.foldl_nil,List.map_nil,go_sem]) (by simp only [mV,rv,tk,List.take_zero,List.foldl_nil,List.length_nil,go_sem];simp)) ?_
 intro j B hB
 unfold mV
 simp only [go_sem]
 refine bC (fun h3=> ?_) (fun h3=> ?_)<;>simp only [h3,go_sem]
 ·have e1:j.1<ms.length:=by simp only [decide_eq_true_eq] at h3;omega
  have e3:=akA k ep e1
  have e4:=VK k ep (ms.take j.1)
  have e5:(ms.take j.1).length<=10000:=by simp only [List.length_take];omega
  have hq:0<=(j.1:Int)/\(j.1:Int)<(ms.length:Int):=⟨by omega,by omega⟩
  have m1:(tk k ep (ms.take j.1)).1.length+1<=maxLen:=Nat.le_trans (show _<=20000 by omega) (by decide)
  have m2:(tk k ep (ms.take j.1)).2.length+1<=maxLen:=Nat.le_trans (show _<=20000 by omega) (by decide)
  have e10:ms[j.1].enc.length=7:=rfl
  have e11:ms[j.1].enc.take 7=ms[j.1].enc:=rfl
  by_cases h4:((tk k ep (ms.take j.1)).1.length:Int)<k
  ·simp only [h4,decide_true,Int.toNat_natCast,lV e1,e10,e11,go_sem]
   refine ⟨hq,?_⟩
   refine aQ (sS _ ep) rfl rfl ?_
   simp only [go_sem]
   by_cases h5:ms[j.1].epoch<ep
   ·have e6:tk k ep (ms.take (j.1+1))=((tk k ep (ms.take j.1)).1,(tk k ep (ms.take j.1)).2++[ms[j.1]]):=by rw [e3];unfold wL;rw [if_pos h4,if_pos h5]
    simp only [h5,decide_true,Int.toNat_natCast,lV e1,e10,e11,bT (show j.1<=100000 by omega),yG,List.take_length,List.drop_zero,go_sem]
    exact ⟨hq,⟨by omega,m2,by omega⟩,rfl,hB _ ⟨j.1+1,e1⟩ (by simp only;omega) (Wk.mk [(8,8),(16,16),(128,128),(1500,2216),(1508,1508)] [] rfl rfl (by simp only [mV,e6,cZ,bO,au,rv,uL,AU,List.length_append,List.map_cons,List.map_nil,go_sem]) (by simp only [mV,go_sem]) (by simp only [mV,e6,rv,go_sem]))⟩
   ·have e6:tk k ep (ms.take (j.1+1))=((tk k ep (ms.take j.1)).1++[ms[j.1]],(tk k ep (ms.take j.1)).2):=by rw [e3];unfold wL;rw [if_pos h4,if_neg h5]
    simp only [h5,decide_false,Int.toNat_natCast,lV e1,e10,e11,bT (show j.1<=100000 by omega),yG,List.take_length,List.drop_zero,go_sem]
    exact ⟨hq,⟨by omega,m1,by omega⟩,hB _ ⟨j.1+1,e1⟩ (by simp only;omega) (Wk.mk [(8,8),(16,16),(128,128),(1500,1500),(1508,2208)] [] rfl rfl (by simp only [mV,e6,cZ,bO,au,rv,uL,AU,List.length_append,List.map_cons,List.map_nil,go_sem]) (by simp only [mV,go_sem]) (by simp only [mV,e6,rv,List.length_append,go_sem]))⟩
  ·have e6:tk k ep (ms.take (j.1+1))=((tk k ep (ms.take j.1)).1,(tk k ep (ms.take j.1)).2++[ms[j.1]]):=by rw [e3];unfold wL;rw [if_neg h4]
   simp only [h4,decide_false,Int.toNat_natCast,lV e1,e10,e11,bT (show j.1<=100000 by omega),yG,List.take_length,List.drop_zero,go_sem]
   exact ⟨hq,⟨by omega,m2,by omega⟩,rfl,hB _ ⟨j.1+1,e1⟩ (by simp only;omega) (Wk.mk [(8,8),(16,16),(128,128),(1500,2216),(1508,1508)] [] rfl rfl (by simp only [mV,e6,cZ,bO,au,rv,uL,AU,List.length_append,List.map_cons,List.map_nil,go_sem]) (by simp only [mV,go_sem]) (by simp only [mV,e6,rv,go_sem]))⟩
 ·have e1:j.1=ms.length:=by have:=j.2;simp only [decide_eq_false_iff_not] at h3;omega
  have e3:ms.take j.1=ms:=by rw [e1,List.take_length]
  refine Fin.aD _ rfl rfl ?_
  simp only [e3,ay,rv,au,yG,List.take_length,List.drop_zero,List.map_nil,List.not_mem_nil,not_false_eq_true,true_and,go_sem]
  simp
def qQ (c:Int) (ms:List ai) (ep:Int) (j:{j:Nat // j<=ms.length}):St:=
 ⟨2000,[(1,I ep),(2,.ptr 8 0),(4,.ptr 16 0),(8,.ptr 128 0),(9,I j.1)],
  [(8,.box [I c,fP ms]),(16,.box [I 0,Nl]),(128,.box [I c,.own 1500 7 0 (keep ep (ms.take j.1)).length]),(1500,.row 123 7 (bN (keep ep (ms.take j.1))))]⟩
theorem akI (c:Int) (ms:List ai) (ep:Int) (hl:ms.length<=10000):Fn Tryz.prog 392 [jT c ms,I ep] [] (M8 c ms ep) [] []:=by
 refine Fn.aO ajo (by simp) ?_
 unfold Va SC.mk' M8 wJ
 simp only [go_sem]
 refine aQ (Di c ms (by omega)) rfl rfl ?_
 simp only [go_sem]
 refine bC (fun h1=> ?_) (fun h1=> ?_)<;>simp only [h1,go_sem]
 ·have e:iA c ms≠0:=by simpa using h1
  rw [if_pos e,if_pos e]
  exact Fin.aD _ rfl rfl (by simp only [ay,rv,au,bN,List.map_nil,go_sem])
 have e:iA c ms=0:=by simpa using h1
 have e0:=AP e
 rw [if_neg (show ¬ iA c ms≠0 from fun h=>h e)]
 have o1:((1:Int)≠0)=True:=by simp
 by_cases h3:ep<0
 ·simp only [h3,o1,decide_true,decide_false,if_true,if_false,go_sem]
  exact Fin.aD _ rfl rfl (by simp only [ay,rv,au,bN,List.map_nil,o1,if_true,go_sem])
 by_cases h4:65536<ep
 ·simp only [h3,h4,o1,decide_true,decide_false,if_true,if_false,go_sem]
  exact Fin.aD _ rfl rfl (by simp only [ay,rv,au,bN,List.map_nil,o1,if_true,go_sem])
 simp only [h3,h4,decide_false,if_false,ne_eq,not_true_eq_false,go_sem]
 refine go_loop (qQ c ms ep) (fun j=>ms.length - j.1) ⟨0,by omega⟩ (Wk.mk [(8,8),(16,16),(128,152)] [1500] rfl rfl
  (by simp only [qQ,cZ,bO,au,rv,keep,List.take_zero,List.filter_nil,List.length_nil,go_sem];try simp) (by simp only [qQ,gY,keep,bN,List.take_zero,List.filter_nil,List.map_nil,go_sem]) (by simp only [qQ,rv,keep,List.take_zero,List.filter_nil,List.length_nil,go_sem];try simp)) ?_
 intro j B hB
 unfold qQ
 simp only [go_sem]
 refine bC (fun h3=> ?_) (fun h3=> ?_)<;>simp only [h3,go_sem]
 ·have e1:j.1<ms.length:=by simp only [decide_eq_true_eq] at h3;omega
  have kt:=akB (ep:=ep) e1
  have kl:=akC ep ms j.1
  have hq:0<=(j.1:Int)/\(j.1:Int)<(ms.length:Int):=⟨by omega,by omega⟩
  have hmax:(keep ep (ms.take j.1)).length+1<=maxLen:=Nat.le_trans (show _<=20000 by omega) (by decide)
  have e10:ms[j.1].enc.length=7:=rfl
  have e11:ms[j.1].enc.take 7=ms[j.1].enc:=rfl
  simp only [Int.toNat_natCast,lV e1,e10,e11,go_sem]
  refine ⟨hq,?_⟩
  refine aQ (sS _ ep) rfl rfl ?_
  simp only [go_sem]
  by_cases h5:ms[j.1].epoch<ep
  ·have e7:keep ep (ms.take (j.1+1))=keep ep (ms.take j.1):=by rw [kt,if_pos];simp [AY];omega
   simp only [h5,decide_true,bT (show j.1<=100000 by omega),go_sem]
   exact hB _ ⟨j.1+1,e1⟩ (by simp only;omega) (Wk.mk [(8,8),(16,16),(128,128),(1500,1500)] [] rfl rfl (by simp only [qQ,e7,cZ,bO,au,rv,go_sem]) (by simp only [qQ,go_sem]) (by simp only [qQ,e7,rv,go_sem]))
  ·have e7:keep ep (ms.take (j.1+1))=keep ep (ms.take j.1)++[ms[j.1]]:=by rw [kt,if_neg];simp [AY];omega
   simp only [h5,decide_false,Int.toNat_natCast,lV e1,e10,e11,bT (show j.1<=100000 by omega),qd,go_sem]
   exact ⟨hq,⟨by omega,hmax,by omega⟩,rfl,hB _ ⟨j.1+1,e1⟩ (by simp only;omega) (Wk.mk [(8,8),(16,16),(128,128),(1500,2168)] [] rfl rfl (by simp only [qQ,e7,cZ,bO,au,rv,uL,AU,List.length_append,go_sem]) (by simp only [qQ,go_sem]) (by simp only [qQ,e7,rv,List.length_append,go_sem]))⟩
 ·have e1:j.1=ms.length:=by have:=j.2;simp only [decide_eq_false_iff_not] at h3;omega
  have kl:=akD ep ms
  have e7:IntKind.i64.wrap ((ms.length:Int) - (keep ep ms).length)=(ms.length:Int) - (keep ep ms).length:=bE (by omega)
  simp only [e1,List.take_length,e7,go_sem]
  refine ⟨rfl,Fin.aD _ rfl rfl ?_⟩
  simp only [ay,rv,au,qd,jv,List.take_length,List.drop_zero,List.map_nil,List.not_mem_nil,not_false_eq_true,true_and,go_sem]
  exact Nat.le_refl _
end Go.Eng
namespace Go.Eng
open Go Go.Proofs
def pk (l:List Int) (a:Nat) (zs:List Int):Int:=zs[(nV l a zs.length).toNat]?.getD 0
theorem qR (l:List Int) (a:Nat) (zs:List Int) (hl:l.length<=4000) (h0:0<zs.length) (h1:zs.length<=100):
 gu Tryz.prog 177 [.ptr 0 0,.own 4 1 0 zs.length] [dU l a] [.row 3 1 (encI zs)] (I (pk l a zs)) [dU l (nN l a zs.length)] []:=by
 refine gu.aO aiE (by simp) ?_
 unfold RP SC.mk'
 simp only [aS,go_sem]
 refine d9 (b:=0) (gQ l a zs.length hl (by omega)) ⟨rfl,⟨rfl,rfl⟩,trivial⟩ rfl rfl rfl rfl ?_
 have k0:=oz l a zs.length
 have k3:=oC l a (n:=zs.length) (by omega)
 have e1:(nV l a zs.length).toNat<zs.length:=by omega
 simp only [aa7 e1,aS,Nat.zero_add,go_sem]
 refine ⟨⟨by omega,by omega⟩,⟨e1,?_⟩⟩
 have e2:pk l a zs=zs[(nV l a zs.length).toNat]:=by unfold pk;rw [List.getElem?_eq_getElem e1];rfl
 rw [e2]
 exact Fin.mQ _ rfl rfl rfl rfl rfl rfl rfl
end Go.Eng
namespace Go.Eng
open Go
theorem abB (k:IntKind) (j:Nat) (hj:j<=k.bits) (hk:∀ n:Int,0<=n->n<2 ^ j->k.wrap n=n) (a b:Nat) (ha:a<2 ^ j) (hb:b<2 ^ j):
 bits .xor k a b=((a ^^^ b:Nat):Int):=by
 have hp:2 ^ j<=2 ^ k.bits:=Nat.pow_le_pow_right (by decide) hj
 have ha':a % 2 ^ k.bits=a:=Nat.mod_eq_of_lt (Nat.lt_of_lt_of_le ha hp)
 have hb':b % 2 ^ k.bits=b:=Nat.mod_eq_of_lt (Nat.lt_of_lt_of_le hb hp)
 have cast:∀ n:Nat,n<2 ^ j->((n:Nat):Int)<2 ^ j:=fun n h=>by exact_mod_cast h
 simp only [bits,BitVec.ofInt_natCast,BitVec.toNat_xor,BitVec.toNat_ofNat,ha',hb']
 exact hk _ (Int.natCast_nonneg _) (cast _ (Nat.xor_lt_two_pow ha hb))
theorem M9 (n:Int) (h0:0<=n) (h1:n<2 ^ 63):IntKind.i64.wrap n=n:=by rw [IntKind.wrap_i64];omega
def hs (h x:Nat):Nat:=((h ^^^ x)*16777619) % 4294967296
def qU (h:Nat):List UInt8->Nat
 |[]=>h
 |x::b=>qU (hs h x.toNat) b
theorem abC (h:Nat):∀ a b,qU h (a++b)=qU (qU h a) b
 |[],_=>rfl
 |x::a,b=>abC (hs h x.toNat) a b
theorem akJ (h x:Nat):hs h x<4294967296:=Nat.mod_lt _ (by decide)
theorem VN:∀ (b:List UInt8) (h:Nat),h<4294967296->qU h b<4294967296
 |[],_,h=>h
 |x::b,h,_=>VN b _ (akJ h x.toNat)
theorem akK {α:Type} (b:List α) (j:Nat) (h:j<b.length):b.take (j+1)=b.take j++[b[j]]:=by
 rw [List.take_succ_eq_append_getElem h]
theorem akL (h:Nat) (b:List UInt8) (j:Nat) (hj:j<b.length):qU h (b.take (j+1))=hs (qU h (b.take j)) b[j].toNat:=by
 rw [akK b j hj,abC];rfl
def Dl (b:List UInt8):Nat:=qU 2166136261 (90::b)
theorem akM (b:List UInt8):Dl b<4294967296:=VN _ _ (by decide)
theorem akN {h x:Nat} (h1:h<4294967296) (h2:x<256):h ^^^ x<4294967296:=Nat.xor_lt_two_pow (n:=32) h1 (by omega)
theorem akO (h x:Nat) (h1:h<4294967296) (h2:x<256):bits .and .i64 (IntKind.i64.wrap (bits .xor .i64 (h:Int) (x:Int)*16777619)) 4294967295=((hs h x:Nat):Int):=by
 have e1:=akN h1 h2
 rw [abB .i64 63 (by decide) M9 h x (by omega) (by omega),M9 _ (by omega) (by omega)]
 have e2:=bits_mask .i64 63 (by decide) M9 32 (by decide) (((h ^^^ x:Nat):Int)*16777619) (by omega) (by omega)
 have e3:((2:Int) ^ 32 - 1)=4294967295:=by decide
 rw [e3] at e2
 rw [e2]
 unfold hs
 omega
def be (n:Nat):Nat->Nat->List UInt8
 |_,0=>[]
 |s,q+1=>be n s q++[(n / 2 ^ (8*(s - 1 - q))).toUInt8]
def mW (n s:Nat):List UInt8:=be n s s
theorem Na (n s:Nat):∀ q,(be n s q).length=q
 |0=>rfl
 |q+1=>by simp [be,Na n s q]
theorem AZ (n s:Nat):(mW n s).length=s:=Na n s s
def oF (b:List UInt8) (i:Nat):Nat:=(b[i]?.getD 0).toNat
theorem VO (b:List UInt8) (i:Nat):oF b i<256:=(b[i]?.getD 0).toNat_lt
def gN (b:List UInt8) (a:Nat):Nat->Nat
 |0=>0
 |j+1=>gN b a j*256+oF b (a+j)
theorem abD (b:List UInt8) (a:Nat):∀ j,gN b a j<256 ^ j
 |0=>by simp [gN]
 |j+1=>by
  have:=abD b a j
  have:=VO b (a+j)
  simp only [gN,Nat.pow_succ]
  omega
def Hd.ok (h:Hd):Prop:=(1<=h.id/\h.id<=1073741824)/\(1<=h.gen/\h.gen<=65536)/\(0<=h.route/\h.route<65536)/\(0<=h.hint/\h.hint<6)
instance (h:Hd):Decidable h.ok:=by unfold Hd.ok;exact inferInstance
def uN (h:Hd):List UInt8:=[113]++mW h.id.toNat 4++mW h.gen.toNat 3++mW h.route.toNat 2++[h.hint.toNat.toUInt8,0]
def wM (h:Hd):List UInt8:=uN h++mW (Dl (uN h)) 4
def zH:Hd:=⟨0,0,0,0⟩
def qf (b:List UInt8):Hd:=⟨gN b 1 4,gN b 5 3,gN b 8 2,gN b 10 1⟩
def parse (b:List UInt8):Option Hd:=if b.length=16/\(qf b).ok/\wM (qf b)=b then some (qf b) else none
theorem abE {b:List UInt8} {h:Hd} (e:parse b=some h):h.ok:=by
 unfold parse at e
 split at e
 ·rename_i c;cases e;exact c.2.1
 ·cases e
theorem A7 (n:Nat):n.toUInt8.toNat=n % 256:=rfl
def flip (b:List UInt8):List UInt8:=b.set (b.length - 1) ((b[b.length - 1]?.getD 0) ^^^ 1)
end Go.Eng
namespace Go.Eng
open Go Go.Proofs
attribute [local go_sem] Int.cast_ofNat_Int Int.reduceBEq Int.reduceLT Int.reduceLE Int.reduceSub Int.reduceAdd Int.reduceNeg Int.reduceEq Int.reduceToNat decide_true decide_false decide_eq_true_eq beq_self_eq_true bne_self_eq_false List.reduceReplicate List.length_set List.length_replicate List.length_cons List.length_nil List.set_cons_zero List.set_cons_succ Int.toNat_natCast
theorem abF {b:List UInt8} {k:Nat} (h:k<b.length):nth (dL b) k=[B8 b[k]]:=by simp [dL,nth,h]
theorem abG {b:List UInt8} {k:Nat} (h:k<b.length):nth (dL b) k=[.v (.int .u8 (oF b k:Nat))]:=by rw [abF h];simp [oF,h]
theorem akP (b:List UInt8) (k:Nat):(dL b).take k=dL (b.take k):=by simp [dL,List.map_take]
theorem abH (b:List UInt8):(dL b).take b.length=dL b:=by rw [akP,List.take_length]
attribute [go_sem] mU abH
theorem wr8 (n k:Nat):IntKind.u8.wrap ((n:Int).fdiv (2 ^ k))=(((n / 2 ^ k).toUInt8.toNat:Nat):Int):=by
 rw [IntKind.wrap_u8,A7,Int.fdiv_eq_ediv_of_nonneg _ (by exact_mod_cast Nat.zero_le (2 ^ k))]
 rfl
theorem akR (b:List UInt8) (n s q:Nat):dL (b++be n s q)++[[.v (.int .u8 ((n / 2 ^ (8*(s - 1 - q))).toUInt8.toNat:Nat))]]=dL (b++be n s (q+1)):=by
 simp [dL,be]
theorem Nb (b:List UInt8) (n s:Nat) (hb:b.length<=1000) (hs:1<=s/\s<=4) (hn:n<2 ^ (8*s)):Fn Tryz.prog 236 [gK b,I n,I s] [] (.aF [.own 4 1 0 (b.length+s),I 0]) [] [.row 5 1 (dL (b++mW n s))]:=by
 refine Fn.aO MC (by simp) ?_
 unfold MB SC.mk'
 have hn4:n<4294967296:=by rcases (show s=1\/s=2\/s=3\/s=4 by omega) with rfl|rfl|rfl|rfl<;>simp at hn<;>omega
 have e1:decide ((n:Int)<0)=false:=by rw [decide_eq_false_iff_not];omega
 have e2:IntKind.i64.wrap (1*2 ^ (min (IntKind.u64.wrap (IntKind.i64.wrap (8*(s:Int)))).toNat 64))=((2 ^ (8*s):Nat):Int):=by
  rcases (show s=1\/s=2\/s=3\/s=4 by omega) with rfl|rfl|rfl|rfl<;>decide
 have e3:decide (((2 ^ (8*s):Nat):Int)<=(n:Int))=false:=by rw [decide_eq_false_iff_not];omega
 have e4:IntKind.i64.wrap ((s:Int) - 1)=(s:Int) - 1:=bE (by omega)
 have e5:decide ((s:Int)<1)=false:=by simp;omega
 have e6:decide ((6:Int)<(s:Int))=false:=by simp;omega
 have m1:b.length<=maxLen:=Nat.le_trans hb (by decide)
 simp only [e1,e2,e3,e4,e5,e6,go_sem]
 refine ⟨⟨by omega,m1⟩,?_⟩
 refine go_loop (fun q:{q:Nat // q<=s}=>⟨1000,[(1,I n),(8,.own 176 1 0 (b.length+q.1)),(9,I ((s:Int) - 1 - (q.1:Int)))],[(176,.row 5 1 (dL (b++be n s q.1)))]⟩) (fun q=>s - q.1) ⟨0,by omega⟩
  (Wk.mk [(176,176)] [] rfl rfl (by simp only [cZ,bO,au,rv,be,List.append_nil,List.take_length,go_sem]) (by simp only [go_sem]) (by simp only [rv,be,go_sem];try simp)) ?_
 intro q B hB
 simp only [go_sem]
 refine bC (fun h2=> ?_) (fun h2=> ?_)<;>simp only [h2,go_sem]
 ·have e7:q.1<s:=by simp only [decide_eq_true_eq] at h2;omega
  have e8:IntKind.u64.wrap (IntKind.i64.wrap (8*((s:Int) - 1 - (q.1:Int))))=((8*(s - 1 - q.1):Nat):Int):=by rw [bE (by omega),IntKind.wrap_u64];omega
  have e9:min (8*(s - 1 - q.1)) 64=8*(s - 1 - q.1):=by omega
  have e10:IntKind.i64.wrap ((s:Int) - 1 - (q.1:Int) - 1)=(s:Int) - 1 - ((q.1+1:Nat):Int):=by rw [bE (by omega)];omega
  have e11:(dL (b++be n s q.1)).take (b.length+q.1)=dL (b++be n s q.1):=List.take_of_length_le (by simp [mU,Na])
  simp only [e8,e9,e10,e11,wr8,Int.toNat_natCast,List.reduceReplicate,List.length_set,List.length_replicate,List.length_cons,List.length_nil,List.set_cons_zero,List.set_cons_succ,List.drop_zero,akR,List.length_append,Na,go_sem]
  have hm:b.length+q.1+1<=maxLen:=Nat.le_trans (show b.length+q.1+1<=2000 by omega) (by decide)
  exact ⟨⟨by omega,hm,Nat.le_refl _⟩,hB _ ⟨q.1+1,by omega⟩ (by simp only;omega) (Wk.mk [(176,1080)] [] rfl rfl (by simp only [cZ,bO,au,rv,go_sem]) (by simp only [go_sem]) (by simp only [rv,go_sem];try rw [Nat.add_assoc]))⟩
 ·have e7:q.1=s:=by have:=q.2;simp only [decide_eq_false_iff_not] at h2;omega
  simp only [e7,go_sem]
  exact Fin.yJ 176 _ rfl rfl rfl (by simp only [ay,rv,au,get,if_true,and_self,go_sem])
theorem abI (b:List UInt8) (hl:b.length<=100000):Fn Tryz.prog 269 [gK b] [] (I (qU 2166136261 b:Nat)) [] []:=by
 refine Fn.aO MJ (by simp) ?_
 unfold MI SC.mk'
 simp only [go_sem]
 refine go_loop (fun j:{j:Nat // j<=b.length}=>⟨1000,[(0,gK b),(3,I (qU 2166136261 (b.take j.1):Nat)),(4,I j.1)],[]⟩) (fun j=>b.length - j.1) ⟨0,by omega⟩
  (Wk.mk [] [] rfl rfl (by simp only [go_sem]) (by simp only [go_sem]) (by simp only [rv,qU,List.take_zero,go_sem]<;>exact ⟨rfl,rfl⟩)) ?_
 intro j B hB
 simp only [go_sem]
 refine bC (fun h1=> ?_) (fun h1=> ?_)<;>simp only [h1,go_sem]
 ·have e1:j.1<b.length:=by simp only [decide_eq_true_eq] at h1;omega
  have e2:=VN (b.take j.1) 2166136261 (by decide)
  have e3:b[j.1].toNat<256:=b[j.1].toNat_lt
  simp only [Int.toNat_natCast,abF e1,bE (n:=(b[j.1].toNat:Int)) (by omega),akO _ _ e2 e3,<-akL _ _ _ e1,bT (show j.1<=100000 by omega),go_sem]
  refine ⟨⟨by omega,by omega⟩,hB _ ⟨j.1+1,e1⟩ (by simp only;omega) (Wk.mk [] [] rfl rfl (by simp only [go_sem]) (by simp only [go_sem]) (by simp only [rv,go_sem]))⟩
 ·have e1:j.1=b.length:=by have:=j.2;simp only [decide_eq_false_iff_not] at h1;omega
  simp only [e1,List.take_length]
  exact Fin.bI _ rfl rfl rfl rfl
theorem akS (b:List UInt8) (hl:b.length<=10000):Fn Tryz.prog 237 [gK b] [] (I (Dl b:Nat)) [] []:=by
 refine Fn.aO aiL (by simp) ?_
 unfold SF SC.mk'
 have hm:1+b.length<=maxLen:=Nat.le_trans (show 1+b.length<=10001 by omega) (by decide)
 have e0:[[AV.v (.int .u8 90)]]++dL b=dL (90::b):=rfl
 simp only [List.take_succ_cons,List.take_zero,e0,go_sem]
 by_cases h0:1+b.length<=1
 ·obtain rfl:b=[]:=List.eq_nil_of_length_eq_zero (by omega)
  simp only [List.length_nil,Nat.add_zero,Nat.le_refl,if_true,go_sem]
  refine AX (abI [90] (by simp)) (by simp [au,rv,get,dL]) rfl rfl ?_
  simp only [go_sem]
  exact Fin.bI _ rfl rfl rfl rfl
 simp only [h0,if_false,go_sem]
 refine ⟨⟨by omega,hm⟩,?_⟩
 refine AX (abI (90::b) (by simp;omega)) (by simp [au,rv,get,mU];exact ⟨by omega,(List.take_of_length_le (by simp [mU];omega)).symm⟩) rfl rfl ?_
 simp only [go_sem]
 exact Fin.bI _ rfl rfl rfl rfl
end Go.Eng
namespace Go.Eng
open Go Go.Proofs
attribute [local go_sem] Int.cast_ofNat_Int Int.reduceBEq Int.reduceLT Int.reduceLE Int.reduceSub Int.reduceAdd Int.reduceNeg Int.reduceEq Int.reduceToNat decide_true decide_false decide_eq_true_eq beq_self_eq_true bne_self_eq_false List.reduceReplicate List.length_set List.length_replicate List.length_cons List.length_nil List.set_cons_zero List.set_cons_succ Int.toNat_natCast
def encR (h:Hd):AV:=if h.ok then .aF [gK (wM h),I 0] else .aF [Nl,I 1]
def hd1 (id:Nat):List UInt8:=[113]++mW id 4
def hd2 (id gen:Nat):List UInt8:=hd1 id++mW gen 3
def hd3 (id gen route:Nat):List UInt8:=hd2 id gen++mW route 2
theorem A8 (id:Nat):(hd1 id).length=5:=by simp [hd1,AZ]
theorem A9 (id gen:Nat):(hd2 id gen).length=8:=by simp [hd2,A8,AZ]
theorem abJ (id gen route:Nat):(hd3 id gen route).length=10:=by simp [hd3,A9,AZ]
theorem akT (h:Hd):(uN h).length=12:=by simp [uN,AZ]
theorem yO {b:List UInt8} {k:Nat} (h:b.length=k):(dL b).take k=dL b:=List.take_of_length_le (by rw [mU];omega)
theorem Nc (b:List UInt8):∀ o ∈ [Ob.row 5 1 (dL b)],lS o:=by
 simp [lS,jP,dL]
 intro x _
 rfl
theorem akU (b:List UInt8) (x:Nat) (hx:x<256):dL b++[[.v (.int .u8 (x:Int))],[.v (.int .u8 0)]]=dL (b++[x.toUInt8,0]):=by
 have h:((x.toUInt8.toNat:Nat):Int)=x:=by rw [A7];omega
 have h':(B8 x.toUInt8:AV)= .v (.int .u8 (x:Int)):=by rw [B8,h]
 simp only [dL,List.map_append,List.map_cons,List.map_nil,h'];rfl
theorem Dm (h:Hd):Fn Tryz.prog 150 [.agg h.enc] [] (encR h) [] []:=by
 refine Fn.aO aiy (by simp) ?_
 unfold Rp SC.mk' encR Hd.enc
 by_cases hk:h.ok
 ·rw [if_pos hk]
  obtain ⟨⟨a1,a2⟩,⟨a3,a4⟩,⟨a5,a6⟩,⟨a7,a8⟩⟩:=hk
  obtain ⟨id,gen,route,hint⟩:=h
  simp only at a1 a2 a3 a4 a5 a6 a7 a8
  obtain ⟨id,rfl⟩:=Int.eq_ofNat_of_zero_le (show 0<=id by omega)
  obtain ⟨gen,rfl⟩:=Int.eq_ofNat_of_zero_le (show 0<=gen by omega)
  obtain ⟨route,rfl⟩:=Int.eq_ofNat_of_zero_le (show 0<=route by omega)
  obtain ⟨hint,rfl⟩:=Int.eq_ofNat_of_zero_le (show 0<=hint by omega)
  have c1:decide ((id:Int)<1)=false:=by rw [decide_eq_false_iff_not];omega
  have c2:decide (1073741824<(id:Int))=false:=by rw [decide_eq_false_iff_not];omega
  have c3:decide ((gen:Int)<1)=false:=by rw [decide_eq_false_iff_not];omega
  have c4:decide (65536<(gen:Int))=false:=by rw [decide_eq_false_iff_not];omega
  have c5:decide ((route:Int)<0)=false:=by rw [decide_eq_false_iff_not];omega
  have c6:decide (65536<=(route:Int))=false:=by rw [decide_eq_false_iff_not];omega
  have c7:decide ((hint:Int)<0)=false:=by rw [decide_eq_false_iff_not];omega
  have c8:decide (6<=(hint:Int))=false:=by rw [decide_eq_false_iff_not];omega
  simp only [c1,c2,c3,c4,c5,c6,c7,c8,go_sem]
  have e0:[[AV.v (.int .u8 113)]]=dL [113]:=rfl
  simp only [e0]
  have r1:[113]++mW id 4=hd1 id:=rfl
  have r2:hd1 id++mW gen 3=hd2 id gen:=rfl
  have r3:hd2 id gen++mW route 2=hd3 id gen route:=rfl
  refine Ij (Nb [113] id 4 (by simp) (by omega) (by omega)) (by simp [au,rv,get,mU];rfl) rfl (Nc _) (by simp) rfl rfl ?_
  simp only [r1,dB,sh,go_sem]
  refine Ij (Nb (hd1 id) gen 3 (by simp [A8]) (by omega) (by omega)) (by simp [au,rv,get,mU,A8,yO (A8 id)]) rfl (Nc _) (by simp) rfl (by simp [dX,mO,A8];rfl) ?_
  simp only [r2,dB,sh,A8,go_sem]
  refine Ij (Nb (hd2 id gen) route 2 (by simp [A9]) (by omega) (by omega)) (by simp [au,rv,get,mU,A9,yO (A9 id gen)]) rfl (Nc _) (by simp) rfl (by simp [dX,mO,A9];rfl) ?_
  simp only [r3,dB,sh,A9,go_sem]
  have e8:IntKind.u8.wrap (hint:Int)=(hint:Int):=by rw [IntKind.wrap_u8];omega
  have r4:dL (hd3 id gen route)++[[.v (.int .u8 (hint:Int))],[.v (.int .u8 0)]]=dL (uN ⟨id,gen,route,hint⟩):=akU _ hint (by omega)
  simp only [yO (abJ id gen route),mU,abJ,e8,List.take_succ_cons,List.take_zero,r4,go_sem]
  have hl:=akT ⟨id,gen,route,hint⟩
  have ht:wM ⟨id,gen,route,hint⟩=uN ⟨id,gen,route,hint⟩++mW (Dl (uN ⟨id,gen,route,hint⟩)) 4:=rfl
  rw [ht]
  have hc:=akM (uN ⟨id,gen,route,hint⟩)
  generalize uN ⟨id,gen,route,hint⟩=hb at hl hc ⊢
  refine ⟨by decide,?_⟩
  refine AX (akS hb (by omega)) (by simp [au,rv,get,mU,hl,yO hl]) rfl rfl ?_
  simp only [go_sem]
  refine Ij (Nb hb (Dl hb) 4 (by omega) (by omega) (by omega)) (by simp [au,rv,get,mU,hl,yO hl]) rfl (Nc _) (by simp) rfl (by simp [dX,mO,hl];rfl) ?_
  simp only [dB,sh,hl,go_sem]
  exact Fin.aD _ rfl rfl (by simp [ay,rv,au,get,mU,AZ,hl];exact (yO (by simp [AZ,hl])).symm)
 ·rw [if_neg hk]
  simp only [go_sem]
  repeat' first
   |(exfalso;simp only [decide_eq_false_iff_not] at*;exact hk ⟨⟨by omega,by omega⟩,⟨by omega,by omega⟩,⟨by omega,by omega⟩,⟨by omega,by omega⟩⟩)
   |(refine dD (fun h1=> ?_) (fun h1=> ?_)<;>simp only [h1,go_sem])
   |(refine bC (fun h1=> ?_) (fun h1=> ?_)<;>simp only [h1,go_sem])
   |exact Fin.bI _ rfl rfl rfl rfl
end Go.Eng
namespace Go.Eng
open Go Go.Proofs
def hN (id gen route hint:Nat):Nat->Nat
 |0=>id
 |1=>gen
 |2=>route
 |3=>hint
 |_=>0
def hS:Nat->Nat
 |0=>4
 |1=>3
 |2=>2
 |_=>1
def hP (id gen route hint:Nat):Nat->List UInt8
 |0=>[113]
 |j+1=>hP id gen route hint j++mW (hN id gen route hint j) (hS j)
attribute [local go_sem] Int.cast_ofNat_Int Int.reduceBEq Int.reduceLT Int.reduceLE Int.reduceSub Int.reduceAdd Int.reduceNeg Int.reduceEq Int.reduceToNat decide_true decide_false decide_eq_true_eq beq_self_eq_true bne_self_eq_false List.reduceReplicate List.length_set List.length_replicate List.length_cons List.length_nil List.set_cons_zero List.set_cons_succ Int.toNat_natCast
theorem or8 (g x:Nat) (hg:g<2 ^ 48) (hx:x<256):bits .or .i64 (IntKind.i64.wrap ((g:Int)*2 ^ 8)) (x:Int)=((g*256+x:Nat):Int):=by
 have e:((g:Int)*2 ^ 8)=((g*256:Nat):Int):=by simp
 rw [e,bE (by omega)]
 rw [bits_join .i64 63 (by decide) M9 8 _ _ (by omega) (by omega) (by omega) (by omega) (by omega) (by omega)]
 simp
theorem akW (b:List UInt8) (a j:Nat) (hj:j<=6):gN b a j<2 ^ 48:=by
 have h1:=abD b a j
 have h2:256 ^ j<=256 ^ 6:=Nat.pow_le_pow_right (by decide) hj
 have h3:(256:Nat) ^ 6=2 ^ 48:=by decide
 omega
theorem Nf (b:List UInt8) (a s:Nat) (hb:b.length<=1000) (hs:1<=s/\s<=6) (ha:a+s<=b.length):Fn Tryz.prog 149 [gK b,I a,I s] [] (.aF [I (gN b a s:Nat),I 0]) [] []:=by
 refine Fn.aO aix (by simp) ?_
 unfold Ro SC.mk'
 have c1:decide ((s:Int)<1)=false:=by rw [decide_eq_false_iff_not];omega
 have c2:decide (6<(s:Int))=false:=by rw [decide_eq_false_iff_not];omega
 have c3:decide ((a:Int)<0)=false:=by rw [decide_eq_false_iff_not];omega
 have c4:decide ((b.length:Int)<(a:Int))=false:=by rw [decide_eq_false_iff_not];omega
 have c5:IntKind.i64.wrap ((b.length:Int) - (a:Int))=(b.length:Int) - (a:Int):=bE (by omega)
 have c6:decide ((b.length:Int) - (a:Int)<(s:Int))=false:=by rw [decide_eq_false_iff_not];omega
 simp only [c1,c2,c3,c4,c5,c6,go_sem]
 refine go_loop (fun j:{j:Nat // j<=s}=>⟨1000,[(0,gK b),(1,I a),(2,I s),(8,I (gN b a j.1:Nat)),(9,I j.1)],[]⟩) (fun j=>s - j.1) ⟨0,by omega⟩
  (Wk.mk [] [] rfl rfl (by simp only [go_sem]) (by simp only [go_sem]) (by simp only [rv,gN,go_sem]<;>exact ⟨rfl,rfl⟩)) ?_
 intro j B hB
 obtain ⟨j,hj⟩:=j
 simp only [go_sem]
 refine bC (fun h1=> ?_) (fun h1=> ?_)<;>simp only [h1,go_sem]
 ·have e1:j<s:=by simp only [decide_eq_true_eq] at h1;omega
  have e2:IntKind.i64.wrap ((a:Int)+(j:Int))=((a+j:Nat):Int):=by rw [bE (by omega)];omega
  have e3:=VO b (a+j)
  have e4:IntKind.i64.wrap ((oF b (a+j):Nat):Int)=((oF b (a+j):Nat):Int):=bE (by omega)
  have e5:=akW b a j (by omega)
  have e6:gN b a j*256+oF b (a+j)=gN b a (j+1):=rfl
  simp only [Int.toNat_natCast,e2,abG (show a+j<b.length by omega),e4,Nat.reduceLeDiff,Nat.min_eq_left (show 8<=64 by decide),go_sem]
  simp only [or8 _ _ e5 e3,e6,bT (show j<=100000 by omega),go_sem]
  refine ⟨⟨by omega,by omega⟩,hB _ ⟨j+1,e1⟩ (by simp only;omega) (Wk.mk [] [] rfl rfl (by simp only [go_sem]) (by simp only [go_sem]) (by simp only [rv,go_sem]))⟩
 ·have e1:j=s:=by simp only [decide_eq_false_iff_not] at h1;omega
  subst e1
  exact Fin.bI _ rfl rfl rfl rfl
theorem akX (b:List UInt8):rQ (dL b)=some b:=by
 induction b with
 |nil=>rfl
 |cons x b ih=>
  have e:dL (x::b)=[.v (.int .u8 (x.toNat:Int))]::dL b:=rfl
  rw [e]
  simp only [rQ,ih,Int.toNat_natCast]
  simp
theorem ba_eq (a b:List UInt8):((⟨a.toArray⟩:ByteArray).toList==(⟨b.toArray⟩:ByteArray).toList)=decide (a=b):=by
 rw [ByteArray.toList_eq,ByteArray.toList_eq]
 by_cases h:a=b
 ·simp [h]
 ·simp [h]
theorem akY (a b:List UInt8):Fn Tryz.prog 151 [gK a,gK b] [] (Bo (decide (a=b))) [] []:=by
 refine Fn.aO aiz (by simp) ?_
 unfold Rq SC.mk'
 simp only [akX,go_sem]
 refine Fin.bI _ rfl rfl rfl ?_
 simp only [ay,ba_eq]
end Go.Eng
