/-
  Part of a proof: lemmas and definitions of this work.
  No condition.
-/
import Derived.Test.YthhjbngoibmpgaaGreatA08
import Derived.Test.YthhjbngoibmpgaaGreatA09
set_option linter.all false
set_option maxRecDepth 100000
set_option maxHeartbeats 8000000
namespace Go.Eng
open Go Go.Proofs
attribute [local go_sem] Int.cast_ofNat_Int Int.reduceBEq Int.reduceLT Int.reduceLE Int.reduceSub Int.reduceAdd Int.reduceNeg Int.reduceEq Int.reduceToNat decide_true decide_false decide_eq_true_eq beq_self_eq_true bne_self_eq_false List.reduceReplicate List.length_set List.length_replicate List.length_cons List.length_nil List.set_cons_zero List.set_cons_succ Int.toNat_natCast
theorem yN (cs:List ai) (h s:Nat) (h1:h<=1000) (h2:s<=1000) (h3:0<cs.length):Fn Tryz.prog 248 [jw cs h s] [] (.own 4 7 0 s) [] [.row 123 7 (bN (fE cs h s))]:=by
 refine Fn.aO Td (by simp) ?_
 unfold Tc SC.mk'
 simp only [go_sem]
 refine go_loop (fun j:{j:Nat // j<=s}=>⟨2000,[(1,.ptr 8 0),(3,.own 1500 7 0 j.1),(4,I j.1)],[(8,.box [fP cs,I h,I s]),(1500,.row 123 7 (bN (fE cs h j.1)))]⟩) (fun j=>s - j.1) ⟨0,by omega⟩
  (Wk.mk [(8,8)] [1500] rfl rfl (by simp only [cZ,bO,au,rv,go_sem];try simp) (by simp only [gY,fE,bN,List.range_zero,List.map_nil,go_sem]) (by simp only [rv,go_sem];try simp)) ?_
 intro j B hB
 simp only [go_sem]
 refine bC (fun h4=> ?_) (fun h4=> ?_)<;>simp only [h4,go_sem]
 ·have e1:j.1<s:=by simp only [decide_eq_true_eq] at h4;omega
  have e2:(h+j.1) % cs.length<cs.length:=Nat.mod_lt _ h3
  simp only [Dj (show h<=100000 by omega) (show j.1<=100000 by omega),VF e2,wK,yG,jv,bT (show j.1<=100000 by omega),List.take_of_length_le (Nat.le_of_eq (wK cs h j.1)),List.drop_zero,go_sem]
  have hm:j.1+1<=maxLen:=Nat.le_trans (show _<=2000 by omega) (by decide)
  exact ⟨by omega,⟨by omega,by omega⟩,⟨by omega,hm,by omega⟩,rfl,hB _ ⟨j.1+1,e1⟩ (by simp only;omega) (Wk.mk [(8,8),(1500,2144)] [] rfl rfl (by simp only [cZ,bO,au,rv,akg,uL,AU,go_sem]) (by simp only [go_sem]) (by simp only [rv,go_sem]))⟩
 ·have e1:j.1=s:=by have:=j.2;simp only [decide_eq_false_iff_not] at h4;omega
  simp only [e1,go_sem]
  exact Fin.yJ 1500 _ rfl rfl rfl (by simp only [ay,rv,get,if_true,and_self])
theorem abt {n h j:Nat} {l:List ai} (hl:l.length<=n) (hh:h<n) (hj:j<l.length):(eO n h (l.take j)).set ((h+j) % n) l[j]=eO n h (l.take (j+1)):=by
 have:=aj8 (n:=n) (h:=h) (l:=l.take j) l[j] (by simp only [List.length_take];omega) hh
 rw [List.length_take,Nat.min_eq_left (by omega)] at this
 rw [this,List.take_succ_eq_append_getElem hj]
theorem abu (cs l:List ai) (h s:Int) (hd:Nat) (h1:hd<cs.length) (h2:cs.length<=1000) (h3:l.length<=cs.length):Fn Tryz.prog 268 [jw cs h s,I hd,fP l] [] (AR cs.length hd l) [] []:=by
 refine Fn.aO MH (by simp) ?_
 unfold MG SC.mk'
 simp only [go_sem]
 have hz:zM.enc=[AV.v (.int .i64 0),.v (.int .i64 0),.v (.int .i64 0),.v (.int .i64 0),.v (.int .i64 0),.v (.int .i64 0),.v (.string ⟨#[]⟩)]:=rfl
 have hz2:List.replicate cs.length [AV.v (.int .i64 0),.v (.int .i64 0),.v (.int .i64 0),.v (.int .i64 0),.v (.int .i64 0),.v (.int .i64 0),.v (.string ⟨#[]⟩)]=bN (eO cs.length hd []):=by
  rw [<-hz,VE];simp [bN]
 refine ⟨⟨by omega,by omega,by omega⟩,?_⟩
 refine go_loop (fun j:{j:Nat // j<=l.length}=>⟨2000,[(1,I hd),(2,fP l),(6,.ptr 16 0),(7,.ptr 88 0),(8,I j.1)],
  [(16,.box [Nl,Z',Z']),(88,.box [.own 48 7 0 cs.length,I hd,I l.length]),(48,.row 123 7 (bN (eO cs.length hd (l.take j.1))))]⟩) (fun j=>l.length - j.1) ⟨0,by omega⟩
  (Wk.mk [(16,16),(88,88),(48,48)] [] rfl rfl (by simp only [cZ,bO,au,rv,hz2,List.take_zero,go_sem]) (by simp only [go_sem]) (by simp only [rv,go_sem];try simp)) ?_
 intro j B hB
 simp only [go_sem]
 refine bC (fun h4=> ?_) (fun h4=> ?_)<;>simp only [h4,go_sem]
 ·have e1:j.1<l.length:=by simp only [decide_eq_true_eq] at h4;omega
  have hc:(hd+j.1) % cs.length<cs.length:=Nat.mod_lt _ (by omega)
  simp only [Int.toNat_natCast,lV e1,Dj (show hd<=100000 by omega) (show j.1<=100000 by omega),abq (l.take j.1) (show j.1<cs.length by omega) h1,abr,abt h3 h1 e1,bT (show j.1<=100000 by omega),go_sem]
  exact ⟨by omega,⟨by omega,by omega⟩,⟨by omega,by omega⟩,hc,rfl,hB _ ⟨j.1+1,e1⟩ (by simp only;omega) (Wk.mk [(16,16),(88,88),(48,48)] [] rfl rfl (by simp only [cZ,bO,au,rv,go_sem]) (by simp only [go_sem]) (by simp only [rv,go_sem]))⟩
 ·have e1:j.1=l.length:=by have:=j.2;simp only [decide_eq_false_iff_not] at h4;omega
  simp only [e1,List.take_length,go_sem]
  exact Fin.aD _ rfl rfl (by simp only [ay,rv,au,List.drop_zero,List.map_nil,List.not_mem_nil,not_false_eq_true,true_and,go_sem];try simp)
theorem Dk (cs:List ai) (h s:Int):Fn Tryz.prog 247 [jw cs h s] [] (I (eZ cs h s)) [] []:=by
 refine Fn.aO Ta (by simp) ?_
 unfold S9 SC.mk'
 have bad:qc cs h s=false->eZ cs h s=1:=fun e=>by unfold eZ;rw [if_pos e]
 simp only [go_sem]
 by_cases c1:(cs.length:Int)<1
 ·simp only [c1,decide_true,go_sem]
  exact Fin.bI _ rfl rfl rfl (by rw [bad (by simp [qc];omega)];rfl)
 by_cases c2:(12:Int)<cs.length
 ·simp only [c1,c2,decide_true,decide_false,go_sem]
  exact Fin.bI _ rfl rfl rfl (by rw [bad (by simp [qc];omega)];rfl)
 by_cases c3:h<0
 ·simp only [c1,c2,c3,decide_true,decide_false,go_sem]
  exact Fin.bI _ rfl rfl rfl (by rw [bad (by simp [qc];omega)];rfl)
 by_cases c4:(cs.length:Int)<=h
 ·simp only [c1,c2,c3,c4,decide_true,decide_false,go_sem]
  exact Fin.bI _ rfl rfl rfl (by rw [bad (by simp [qc];omega)];rfl)
 by_cases c5:s<0
 ·simp only [c1,c2,c3,c4,c5,decide_true,decide_false,go_sem]
  exact Fin.bI _ rfl rfl rfl (by rw [bad (by simp [qc];omega)];rfl)
 by_cases c6:(cs.length:Int)<s
 ·simp only [c1,c2,c3,c4,c5,c6,decide_true,decide_false,go_sem]
  exact Fin.bI _ rfl rfl rfl (by rw [bad (by simp [qc];omega)];rfl)
 simp only [c1,c2,c3,c4,c5,c6,decide_false,go_sem]
 have hok:qc cs h s=true:=by simp [qc];omega
 obtain ⟨h,rfl⟩:∃ h':Nat,h=h':=⟨h.toNat,by omega⟩
 obtain ⟨s,rfl⟩:∃ s':Nat,s=s':=⟨s.toNat,by omega⟩
 have hn:0<cs.length:=by omega
 refine go_loop (fun j:{j:Nat // s<=j/\j<=cs.length/\∀ i,s<=i->i<j->eqv (gt cs ((h+i) % cs.length)) zM=true}=>⟨1000,[(1,.ptr 8 0),(3,I cs.length),(4,I j.1)],[(8,.box [fP cs,I h,I s])]⟩) (fun j=>cs.length - j.1) ⟨s,by omega,by omega,fun i h1 h2=>by omega⟩
  (Wk.mk [(8,8)] [] rfl rfl (by simp only [cZ,bO,au,rv,go_sem]) (by simp only [go_sem]) (by simp only [rv,go_sem];try simp)) ?_
 intro j B hB
 have hj:=j.2
 simp only [go_sem]
 refine bC (fun h4=> ?_) (fun h4=> ?_)<;>simp only [h4,go_sem]
 ·have e1:j.1<cs.length:=by simp only [decide_eq_true_eq] at h4;omega
  have e2:(h+j.1) % cs.length<cs.length:=Nat.mod_lt _ hn
  simp only [Dj (show h<=100000 by omega) (show j.1<=100000 by omega),VF e2,go_sem]
  refine ⟨by omega,⟨by omega,by omega⟩,rfl,?_⟩
  cases h5:eqv (gt cs ((h+j.1) % cs.length)) zM with
  |false=>
   simp only [Bool.not_false,go_sem]
   refine Fin.bI _ rfl rfl rfl ?_
   have hz:yK cs h s=false:=by
    rw [Bool.eq_false_iff]
    intro hr
    simp only [yK,List.all_eq_true,List.mem_range,Bool.or_eq_true,decide_eq_true_eq] at hr
    rcases hr j.1 e1 with h6|h6
    ·omega
    ·rw [h5] at h6;cases h6
   have hv:eZ cs h s=7:=by
    unfold eZ
    rw [if_neg (by simp [hok]),Int.toNat_natCast,Int.toNat_natCast,if_pos hz]
   rw [hv]
   rfl
  |true=>
   simp only [Bool.not_true,bT (show j.1<=100000 by omega),go_sem]
   refine hB _ ⟨j.1+1,by omega,e1,fun i h6 h7=> ?_⟩ (by simp only;omega) (Wk.mk [(8,8)] [] rfl rfl (by simp only [cZ,bO,au,rv,go_sem]) (by simp only [go_sem]) (by simp only [rv,go_sem]))
   rcases Nat.lt_or_ge i j.1 with h8|h8
   ·exact hj.2.2 i h6 h8
   ·rw [show i=j.1 by omega];exact h5
 ·have e1:j.1=cs.length:=by simp only [decide_eq_false_iff_not] at h4;omega
  have hz:yK cs h s=true:=by
   simp only [yK,List.all_eq_true,List.mem_range,Bool.or_eq_true,decide_eq_true_eq]
   intro i hi
   by_cases hs:i<s
   ·exact .inl hs
   ·exact .inr (hj.2.2 i (by omega) (by omega))
  have hv:eZ cs h s=iE (fE cs h s):=by
   unfold eZ
   rw [if_neg (by simp [hok]),Int.toNat_natCast,Int.toNat_natCast,if_neg (by simp [hz])]
  rw [hv]
  have hol:=wK cs h s
  refine x9 (yN cs h s (by omega) (by omega) hn) rfl rfl (by simp) rfl ?_
  generalize fE cs h s=ms at hol ⊢
  simp only [dB,sh,go_sem]
  refine go_loop (fun j:{j:Nat // j<=ms.length/\fC (ms.take j)=0}=>⟨1000,[(5,fP ms),(6,I j.1)],[]⟩) (fun j=>ms.length - j.1) ⟨0,by omega,rfl⟩ (Wk.mk [] [] rfl rfl (by simp only [go_sem]) (by simp only [go_sem]) (by simp only [rv,<-hol,qd,List.drop_zero,go_sem];try simp)) ?_
  intro j B hB
  simp only [go_sem]
  refine bC (fun h1=> ?_) (fun h1=> ?_)<;>simp only [h1,go_sem]
  ·have e1:j.1<ms.length:=by simp only [decide_eq_true_eq] at h1;omega
   have e2:=abj e1 j.2.2
   simp only [Int.toNat_natCast,lV e1,go_sem]
   have hq:0<=(j.1:Int)/\(j.1:Int)<(ms.length:Int):=⟨by omega,by omega⟩
   refine ⟨hq,?_⟩
   refine aQ (wG _) rfl rfl ?_
   simp only [go_sem]
   refine bC (fun h2=> ?_) (fun h2=> ?_)<;>simp only [h2,go_sem]
   ·have e3:ms[j.1].val≠0:=by simpa using h2
    have e4:=e2.2 e3
    refine Fin.bI _ rfl rfl rfl ?_
    simp only [ay,iE,e4,if_pos e3]
   ·have e3:ms[j.1].val=0:=by simpa using h2
    simp only [bT (show j.1<=100000 by omega),go_sem]
    exact hB _ ⟨j.1+1,e1,e2.1.trans e3⟩ (by simp only;omega) (Wk.mk [] [] rfl rfl (by simp only [go_sem]) (by simp only [go_sem]) (by simp only [rv,go_sem]))
  ·have e1:j.1=ms.length:=by have:=j.2.1;simp only [decide_eq_false_iff_not] at h1;omega
   have e2:fC ms=0:=by have:=j.2.2;rw [e1,List.take_length] at this;exact this
   refine go_loop (fun j:{j:Nat // j<=ms.length/\((ids ms).take j).Nodup}=>⟨2000,[(5,fP ms),(8,I j.1)],[]⟩) (fun j=>ms.length - j.1) ⟨0,by omega,by simp⟩ (Wk.mk [] [] rfl rfl (by simp only [go_sem]) (by simp only [go_sem]) (by simp only [rv,go_sem];try rfl)) ?_
   intro j B hB
   simp only [go_sem]
   refine bC (fun h1=> ?_) (fun h1=> ?_)<;>simp only [h1,go_sem]
   ·have e1:j.1<ms.length:=by simp only [decide_eq_true_eq] at h1;omega
    have e3:j.1<(ids ms).length:=by rw [wH];exact e1
    have e4:(ids ms)[j.1]=ms[j.1].id:=by simp [ids]
    have hq:0<=(j.1:Int)/\(j.1:Int)<(ms.length:Int):=⟨by omega,by omega⟩
    have e5:nth (bN ms) j.1=[I ms[j.1].id,I ms[j.1].route,I ms[j.1].epoch,I ms[j.1].count,I ms[j.1].gen,I ms[j.1].sent,.v (.string ms[j.1].body)]:=lV e1
    simp only [Int.toNat_natCast,e5,go_sem]
    refine ⟨hq,?_⟩
    refine aQ (wI ms _ (by omega)) rfl rfl ?_
    simp only [go_sem]
    refine bC (fun h2=> ?_) (fun h2=> ?_)<;>simp only [h2,go_sem]
    ·have e6:fD ms ms[j.1].id≠j.1:=by simpa using h2
     have e7:(ids ms)[j.1] ∈ (ids ms).take j.1:=by
      by_cases h:(ids ms)[j.1] ∈ (ids ms).take j.1
      ·exact h
      ·have:=Vz e3 h rfl
       rw [e4] at this
       exact absurd (by unfold fD;rw [if_pos this.1,this.2]) e6
     refine Fin.bI _ rfl rfl rfl ?_
     simp only [ay,iE,e2,abk e3 e7,ne_eq,not_true_eq_false,if_false,if_true]
    ·have e6:fD ms ms[j.1].id=j.1:=by simpa using h2
     have e7:(ids ms)[j.1] ∉ (ids ms).take j.1:=by
      intro h
      have h3:=abl h
      rw [e4] at h3
      unfold fD at e6
      rw [if_pos (by rw [<-e4];exact List.getElem_mem e3)] at e6
      omega
     simp only [bT (show j.1<=100000 by omega),go_sem]
     exact hB _ ⟨j.1+1,e1,(Vy e3).2 ⟨j.2.2,e7⟩⟩ (by simp only;omega) (Wk.mk [] [] rfl rfl (by simp only [go_sem]) (by simp only [go_sem]) (by simp only [rv,go_sem]))
   ·have e1:j.1=ms.length:=by have:=j.2.1;simp only [decide_eq_false_iff_not] at h1;omega
    have e3:=j.2.2
    rw [e1,List.take_of_length_le (by rw [wH];omega)] at e3
    have e4:dup ms=false:=by simp [dup,e3]
    refine Fin.bI _ rfl rfl rfl ?_
    simp only [ay,iE,e2,e4]
    rfl
theorem abv (cs:List ai) (h s:Int) (m:ai):Fn Tryz.prog 267 [jw cs h s,.agg m.enc] [] (I (kz cs h s m)) [] []:=by
 refine Fn.aO Tq (by simp) ?_
 unfold Tp SC.mk' kz
 simp only [go_sem]
 refine aQ (Dk cs h s) rfl rfl ?_
 simp only [go_sem]
 refine bC (fun h1=> ?_) (fun h1=> ?_)<;>simp only [h1,go_sem]
 ·have e:eZ cs h s≠0:=by simpa using h1
  rw [if_pos e]
  exact Fin.bI _ rfl rfl rfl rfl
 have e:eZ cs h s=0:=by simpa using h1
 rw [if_neg (show ¬ eZ cs h s≠0 from fun h=>h e)]
 refine aQ (wG m) rfl rfl ?_
 simp only [go_sem]
 refine bC (fun h2=> ?_) (fun h2=> ?_)<;>simp only [h2,go_sem]
 ·have e2:m.val≠0:=by simpa using h2
  rw [if_pos e2]
  exact Fin.bI _ rfl rfl rfl rfl
 have e2:m.val=0:=by simpa using h2
 rw [if_neg (show ¬ m.val≠0 from fun h=>h e2)]
 refine bC (fun h3=> ?_) (fun h3=> ?_)<;>simp only [h3,go_sem]
 ·have e3:s=cs.length:=by simpa using h3
  rw [if_pos e3]
  exact Fin.bI _ rfl rfl rfl rfl
 have e3:¬ s=cs.length:=by simpa using h3
 rw [if_neg e3]
 obtain ⟨n,h',l,rg,rfl,rfl,rfl⟩:=yM e
 have:=rg.n1;have:=rg.n2;have:=rg.hh;have:=rg.ll
 have hb:m.enc=[I m.id,I m.route,I m.epoch,I m.count,I m.gen,I m.sent,.v (.string m.body)]:=rfl
 have hF:=yN (eO n h' l) h' l.length (by omega) (by omega) (by rw [fG];omega)
 simp only [Int.toNat_natCast,uM rg.ll rg.hh] at hF ⊢
 refine Pm hF rfl rfl (by simp) rfl ?_
 simp only [dB,sh,hb,go_sem]
 refine akn (wI l m.id (by omega)) (by simp [au,rv,get,qd,jv]) rfl rfl ?_
 simp only [go_sem]
 refine ⟨rfl,bC (fun h4=> ?_) (fun h4=> ?_)⟩<;>simp only [h4,go_sem]
 ·have e4:0<=fD l m.id:=by simpa using h4
  simp only [e4,if_true]
  exact Fin.bI _ rfl rfl rfl rfl
 ·have e4:¬ 0<=fD l m.id:=by simpa using h4
  simp only [e4,if_false]
  exact Fin.bI _ rfl rfl rfl rfl
theorem aks (cs:List ai) (h s:Int) (m:ai):Fn Tryz.prog 181 [jw cs h s,.agg m.enc] [] (M0 cs h s m) [] []:=by
 refine Fn.aO RY (by simp) ?_
 unfold RX SC.mk' M0
 simp only [go_sem]
 refine aQ (abv cs h s m) rfl rfl ?_
 simp only [go_sem]
 refine bC (fun h1=> ?_) (fun h1=> ?_)<;>simp only [h1,go_sem]
 ·have e:kz cs h s m≠0:=by simpa using h1
  rw [if_pos e]
  exact Fin.aD _ rfl rfl (by simp only [ay,rv,au,bN,List.map_nil,go_sem])
 have e:kz cs h s m=0:=by simpa using h1
 rw [if_neg (show ¬ kz cs h s m≠0 from fun h=>h e)]
 obtain ⟨e1,e2,_,_⟩:=VI e
 obtain ⟨n,h',l,rg,rfl,rfl,rfl⟩:=yM e1
 have:=rg.n1;have:=rg.n2;have:=rg.hh;have:=rg.ll
 rw [fG] at e2
 have hF:=yN (eO n h' l) h' l.length (by omega) (by omega) (by rw [fG];omega)
 simp only [Int.toNat_natCast,uM rg.ll rg.hh] at hF ⊢
 refine Pm hF rfl rfl (by simp) rfl ?_
 have hG:=abu (eO n h' l) (l++[m]) h' l.length h' (by rw [fG];omega) (by rw [fG];omega) (by rw [fG];simp;omega)
 rw [fG] at hG
 simp only [dB,sh,qd,go_sem]
 have hm:l.length+1<=maxLen:=Nat.le_trans (show _<=20 by omega) (by decide)
 refine ⟨⟨by omega,hm,Nat.le_refl _⟩,?_⟩
 have ht:(bN l++[m.enc]).take (l.length+1)=bN (l++[m]):=by rw [uL,AU,List.take_of_length_le (by simp [jv])]
 refine Cm hG (by simp only [au,rv,ht,List.length_append,jv,List.map_nil,List.not_mem_nil,not_false_eq_true,true_and,List.drop_zero,go_sem];try simp) rfl rfl rfl ?_
 simp only [dF,deep,go_sem]
 exact ⟨rfl,Fin.aD _ rfl rfl (by simp only [ay,rv,au,go_sem];try simp)⟩
theorem akt (cs:List ai) (h s:Int) (m:ai):Fn Tryz.prog 243 [jw cs h s,.agg m.enc] [] (M4 cs h s m) [] []:=by
 refine Fn.aO aiO (by simp) ?_
 unfold SV SC.mk' M4
 simp only [go_sem]
 refine aQ (abv cs h s m) rfl rfl ?_
 simp only [go_sem]
 refine bC (fun h1=> ?_) (fun h1=> ?_)<;>simp only [h1,go_sem]
 ·have e:kz cs h s m≠0:=by simpa using h1
  rw [if_pos e]
  exact Fin.aD _ rfl rfl (by simp only [ay,rv,au,bN,List.map_nil,go_sem])
 have e:kz cs h s m=0:=by simpa using h1
 rw [if_neg (show ¬ kz cs h s m≠0 from fun h=>h e)]
 obtain ⟨e1,e2,_,_⟩:=VI e
 obtain ⟨n,h',l,rg,rfl,rfl,rfl⟩:=yM e1
 have:=rg.n1;have:=rg.n2;have:=rg.hh;have:=rg.ll
 rw [fG] at e2
 have hF:=yN (eO n h' l) h' l.length (by omega) (by omega) (by rw [fG];omega)
 have e3:IntKind.i64.wrap (((h'+n:Nat):Int) - 1)=((h'+(n - 1):Nat):Int):=by rw [bE (by omega)];omega
 have hc:(h'+(n - 1)) % n<n:=Nat.mod_lt _ (by omega)
 simp only [Int.toNat_natCast,uM rg.ll rg.hh,Dj (show h'<=100000 by omega) (show n<=100000 by omega),e3,go_sem] at hF ⊢
 refine ⟨by omega,Pm hF rfl rfl (by simp) rfl ?_⟩
 have hG:=abu (eO n h' l) (m::l) h' l.length ((h'+(n - 1)) % n) (by rw [fG];omega) (by rw [fG];omega) (by rw [fG];simp;omega)
 rw [fG] at hG
 simp only [dB,sh,qd,go_sem]
 have hm:1+l.length<=maxLen:=Nat.le_trans (show _<=20 by omega) (by decide)
 have ht:(m.enc::bN l).take (1+l.length)=bN (m::l):=by rw [Nat.add_comm,<-jv l,List.take_succ_cons,List.take_length];rfl
 by_cases h0:1+l.length<=1
 ·obtain rfl:l=[]:=List.eq_nil_of_length_eq_zero (by omega)
  simp only [List.length_nil,Nat.add_zero,Nat.le_refl,if_true,Y4,go_sem]
  refine Cm hG (by simp [au,rv,bN,get]) rfl rfl rfl ?_
  simp only [dF,deep,go_sem]
  exact ⟨rfl,Fin.aD _ rfl rfl (by simp only [ay,rv,au,go_sem];try simp)⟩
 ·simp only [h0,if_false,go_sem]
  refine ⟨⟨Nat.le_refl _,by omega,hm⟩,?_⟩
  refine Cm hG (by simp only [au,rv,ht,jv,List.map_nil,List.not_mem_nil,not_false_eq_true,true_and,List.drop_zero,Nat.add_comm 1,Nat.le_refl,go_sem];rfl) rfl rfl rfl ?_
  simp only [dF,deep,go_sem]
  exact ⟨rfl,Fin.aD _ rfl rfl (by simp only [ay,rv,au,go_sem];try simp)⟩
theorem aku (k:Int):Fn Tryz.prog 224 [I k] [] (newR k) [] []:=by
 refine Fn.aO Mv (by simp) ?_
 unfold SB SC.mk' newR
 simp only [go_sem]
 by_cases h1:k<1
 ·simp only [h1,decide_true,if_true,go_sem]
  exact Fin.aD _ rfl rfl (by simp only [ay,rv,au,bN,List.map_nil,go_sem])
 by_cases h2:12<k
 ·simp only [h1,h2,decide_true,decide_false,if_true,if_false,go_sem]
  exact Fin.aD _ rfl rfl (by simp only [ay,rv,au,bN,List.map_nil,go_sem])
 simp only [h1,h2,decide_false,if_false,go_sem]
 refine ⟨⟨by omega,by omega,by omega⟩,Fin.aD _ rfl rfl ?_⟩
 have e:bN (eO k.toNat 0 [])=List.replicate k.toNat [AV.v (.int .i64 0),.v (.int .i64 0),.v (.int .i64 0),.v (.int .i64 0),.v (.int .i64 0),.v (.int .i64 0),.v (.string ⟨#[]⟩)]:=by rw [VE];simp [bN,ai.enc,zM]
 simp only [ay,rv,au,e,List.take_replicate,Nat.min_self,List.length_replicate,List.drop_zero,List.map_nil,List.not_mem_nil,not_false_eq_true,true_and,go_sem]
 simp
end Go.Eng
namespace Go.Eng
open Go Go.Proofs
attribute [local go_sem] Int.cast_ofNat_Int Int.reduceBEq Int.reduceLT Int.reduceLE Int.reduceSub Int.reduceAdd Int.reduceNeg Int.reduceEq Int.reduceToNat decide_true decide_false decide_eq_true_eq beq_self_eq_true bne_self_eq_false List.reduceReplicate List.length_set List.length_replicate List.length_cons List.length_nil List.set_cons_zero List.set_cons_succ Int.toNat_natCast
end Go.Eng
namespace Go.Eng
open Go Go.Proofs
attribute [local go_sem] Int.cast_ofNat_Int Int.reduceBEq Int.reduceLT Int.reduceLE Int.reduceSub Int.reduceAdd Int.reduceNeg Int.reduceEq Int.reduceToNat decide_true decide_false decide_eq_true_eq beq_self_eq_true bne_self_eq_false List.reduceReplicate List.length_set List.length_replicate List.length_cons List.length_nil List.set_cons_zero List.set_cons_succ Int.toNat_natCast
theorem akv {l:List ai} (h:fC l=0) (k:Nat):fC (l.take k)=0:=by
 induction l generalizing k with
 |nil=>simp [fC]
 |cons m l ih=>
  cases k with
  |zero=>rfl
  |succ k=>
   simp only [List.take_succ_cons,fC] at h ⊢
   by_cases hm:m.val≠0
   ·rw [if_pos hm] at h;exact absurd h hm
   ·rw [if_neg hm] at h ⊢;exact ih h k
theorem abw {l:List ai} (h:iE l=0):fC l=0/\dup l=false:=by
 unfold iE at h
 by_cases h1:fC l=0
 ·rw [if_neg (fun hx=>hx h1)] at h
  refine ⟨h1,?_⟩
  cases hd:dup l with
  |true=>rw [hd] at h;simp at h
  |false=>rfl
 ·rw [if_pos h1] at h;exact absurd h h1
theorem abx {l:List ai} (h1:fC l=0) (h2:dup l=false):iE l=0:=by
 unfold iE
 rw [if_neg (fun hx=>hx h1),h2];rfl
theorem aby {l:List ai} (h:dup l=false):(ids l).Nodup:=by simpa [dup] using h
theorem Rg.take {n h:Nat} {l:List ai} (rg:Rg n h l) (k:Nat):Rg n h (l.take k):=by
 obtain ⟨h1,h2⟩:=abw rg.snd
 refine ⟨rg.n1,rg.n2,rg.hh,by have:=rg.ll;simp only [List.length_take];omega,abx (akv h1 k) ?_⟩
 have e:ids (l.take k)=(ids l).take k:=by simp [ids,List.map_take]
 simp only [dup,e,Bool.not_eq_false',decide_eq_true_eq]
 exact (aby h2).sublist (List.take_sublist _ _)
theorem abz {l ms:List ai} (h:fC l=0):fC (l++ms)=fC ms:=by
 induction l with
 |nil=>rfl
 |cons m l ih=>
  simp only [List.cons_append,fC] at h ⊢
  by_cases hm:m.val≠0
  ·rw [if_pos hm] at h;exact absurd h hm
  ·rw [if_neg hm] at h ⊢;exact ih h
theorem Rg.push {n h:Nat} {l:List ai} {m:ai} (rg:Rg n h l) (e:kz (eO n h l) h l.length m=0):Rg n h (l++[m]):=by
 obtain ⟨_,h2,h3,h4⟩:=VI e
 obtain ⟨i1,i2⟩:=abw rg.snd
 rw [fG] at h2
 rw [Int.toNat_natCast,Int.toNat_natCast,uM rg.ll rg.hh] at h4
 have hni:m.id ∉ ids l:=fun hx=>h4 (by unfold fD;rw [if_pos hx];omega)
 refine ⟨rg.n1,rg.n2,rg.hh,by have:=rg.ll;simp;omega,abx ?_ ?_⟩
 ·rw [abz i1];simp [fC,h3]
 ·have:(ids (l++[m])).Nodup:=by
   simp only [ids,List.map_append,List.map_cons,List.map_nil,List.nodup_append]
   refine ⟨aby i2,by simp,fun a ha b hb=> ?_⟩
   simp only [List.mem_singleton] at hb
   subst hb
   intro e;subst e;exact hni ha
  simp [dup,this]
def M6 (cs:List ai) (h s k:Int):AV:=
 if eZ cs h s≠0 then .aF [jw [] 0 0,fP [],I (eZ cs h s)] else if k<0 then .aF [jw [] 0 0,fP [],I 1] else if s<k then .aF [jw [] 0 0,fP [],I 1]
 else .aF [AR cs.length h.toNat ((fE cs h.toNat s.toNat).take (s.toNat - k.toNat)),fP ((fE cs h.toNat s.toNat).drop (s.toNat - k.toNat)),I 0]
def VJ (n h:Nat):List ai->List ai->Int×List ai
 |l,[]=>(0,l)
 |l,m::ms=>if kz (eO n h l) h l.length m≠0 then (kz (eO n h l) h l.length m,l) else VJ n h (l++[m]) ms
structure aqV (n h:Nat) (l0 ms:List ai) where
 j:Nat
 l:List ai
 hj:j<=ms.length
 rg:Rg n h l
 eq:VJ n h l0 ms=VJ n h l (ms.drop j)
end Go.Eng
namespace Go.Eng
open Go Go.Proofs
attribute [local go_sem] Int.cast_ofNat_Int Int.reduceBEq Int.reduceLT Int.reduceLE Int.reduceSub Int.reduceAdd Int.reduceNeg Int.reduceEq Int.reduceToNat decide_true decide_false decide_eq_true_eq beq_self_eq_true bne_self_eq_false List.reduceReplicate List.length_set List.length_replicate List.length_cons List.length_nil List.set_cons_zero List.set_cons_succ Int.toNat_natCast
theorem abA (cs l:List ai) (h s:Int) (hd:Nat) (h1:hd<cs.length) (h2:cs.length<=1000) (h3:l.length<=cs.length):Fn Tryz.prog 268 [jw cs h s,I hd,fP l] [] (.agg [.own 4 7 0 cs.length,I hd,I l.length]) [] [.row 123 7 (bN (eO cs.length hd l))]:=by
 refine Fn.aO MH (by simp) ?_
 unfold MG SC.mk'
 simp only [go_sem]
 have hz:zM.enc=[AV.v (.int .i64 0),.v (.int .i64 0),.v (.int .i64 0),.v (.int .i64 0),.v (.int .i64 0),.v (.int .i64 0),.v (.string ⟨#[]⟩)]:=rfl
 have hz2:List.replicate cs.length [AV.v (.int .i64 0),.v (.int .i64 0),.v (.int .i64 0),.v (.int .i64 0),.v (.int .i64 0),.v (.int .i64 0),.v (.string ⟨#[]⟩)]=bN (eO cs.length hd []):=by
  rw [<-hz,VE];simp [bN]
 refine ⟨⟨by omega,by omega,by omega⟩,?_⟩
 refine go_loop (fun j:{j:Nat // j<=l.length}=>⟨2000,[(1,I hd),(2,fP l),(6,.ptr 16 0),(7,.ptr 88 0),(8,I j.1)],
  [(16,.box [Nl,Z',Z']),(88,.box [.own 48 7 0 cs.length,I hd,I l.length]),(48,.row 123 7 (bN (eO cs.length hd (l.take j.1))))]⟩) (fun j=>l.length - j.1) ⟨0,by omega⟩
  (Wk.mk [(16,16),(88,88),(48,48)] [] rfl rfl (by simp only [cZ,bO,au,rv,hz2,List.take_zero,go_sem]) (by simp only [go_sem]) (by simp only [rv,go_sem];try simp)) ?_
 intro j B hB
 simp only [go_sem]
 refine bC (fun h4=> ?_) (fun h4=> ?_)<;>simp only [h4,go_sem]
 ·have e1:j.1<l.length:=by simp only [decide_eq_true_eq] at h4;omega
  have hc:(hd+j.1) % cs.length<cs.length:=Nat.mod_lt _ (by omega)
  simp only [Int.toNat_natCast,lV e1,Dj (show hd<=100000 by omega) (show j.1<=100000 by omega),abq (l.take j.1) (show j.1<cs.length by omega) h1,abr,abt h3 h1 e1,bT (show j.1<=100000 by omega),go_sem]
  exact ⟨by omega,⟨by omega,by omega⟩,⟨by omega,by omega⟩,hc,rfl,hB _ ⟨j.1+1,e1⟩ (by simp only;omega) (Wk.mk [(16,16),(88,88),(48,48)] [] rfl rfl (by simp only [cZ,bO,au,rv,go_sem]) (by simp only [go_sem]) (by simp only [rv,go_sem]))⟩
 ·have e1:j.1=l.length:=by have:=j.2;simp only [decide_eq_false_iff_not] at h4;omega
  simp only [e1,List.take_length,go_sem]
  exact Fin.yJ 48 _ rfl rfl rfl (by simp only [ay,rv,au,get,if_true,and_self])
theorem akw (ms:List ai) (i:Nat) (hi:i<ms.length) (hl:ms.length<=10000):Fn Tryz.prog 443 [fP ms,I i] [] (.own 4 7 0 (i+(ms.length - (i+1)))) [] [.row 123 7 (bN (ms.eraseIdx i))]:=by
 refine Fn.aO ajD (by simp) ?_
 unfold Vs SC.mk'
 have e1:IntKind.i64.wrap ((i:Int)+1)=((i+1:Nat):Int):=bT (by omega)
 have m1:i<=maxLen:=Nat.le_trans (show _<=10000 by omega) (by decide)
 have m2:i+(ms.length - (i+1))<=maxLen:=Nat.le_trans (show _<=10000 by omega) (by decide)
 simp only [e1,Int.toNat_natCast,yG,abh,jv,List.length_take,List.length_drop,Nat.min_eq_left (Nat.le_of_lt hi),List.take_length,go_sem]
 have e2:bN (List.take i (List.take i ms))++bN (List.drop (i+1) ms)=bN (ms.eraseIdx i):=by
  rw [List.eraseIdx_eq_take_drop_succ,uL,List.take_take,Nat.min_self]
 have e3:(ms.eraseIdx i).length=i+(ms.length - (i+1)):=by rw [List.length_eraseIdx_of_lt hi];omega
 rw [e2]
 refine ⟨⟨by omega,by omega⟩,⟨by omega,m1⟩,⟨by omega,by omega,by omega⟩,?_⟩
 by_cases hc:i+(ms.length - (i+1))<=i
 ·have hk:ms.length - (i+1)=0:=by omega
  have e4:List.drop (i+1) ms=[]:=List.drop_eq_nil_of_le (by omega)
  simp only [hc,if_true,go_sem]
  have e5:bN (List.take i (List.take i ms))++(bN (List.drop (i+1) ms)++bN (List.drop (i+(ms.length - (i+1))) (List.take i ms)))=bN (ms.eraseIdx i):=by
   rw [<-e2,e4,hk,Nat.add_zero,List.drop_eq_nil_of_le (by simp;omega)];simp [bN]
  rw [e5]
  refine ⟨rfl,?_⟩
  exact Fin.yJ 40 _ rfl rfl rfl (by simp only [ay,rv,get,if_true,and_self])
 ·simp only [hc,if_false,go_sem]
  refine ⟨⟨by omega,m2,Nat.le_refl _⟩,rfl,?_⟩
  exact Fin.yJ 80 _ rfl rfl rfl (by simp only [ay,rv,get,if_true,and_self])
theorem akx (cs:List ai) (h s:Int):Fn Tryz.prog 163 [jw cs h s] [] (fP (yL cs h s)) [] []:=by
 refine Fn.aO RG (by simp) ?_
 unfold RF SC.mk' yL
 simp only [go_sem]
 refine aQ (Dk cs h s) rfl rfl ?_
 simp only [go_sem]
 refine bC (fun h1=> ?_) (fun h1=> ?_)<;>simp only [h1,go_sem]
 ·have e:eZ cs h s≠0:=by simpa using h1
  rw [if_pos e]
  exact Fin.aD _ rfl rfl (by simp only [ay,rv,au,bN,List.map_nil,go_sem])
 have e:eZ cs h s=0:=by simpa using h1
 rw [if_neg (show ¬ eZ cs h s≠0 from fun h=>h e)]
 obtain ⟨n,h',l,rg,rfl,rfl,rfl⟩:=yM e
 have:=rg.n1;have:=rg.n2;have:=rg.hh;have:=rg.ll
 have hF:=yN (eO n h' l) h' l.length (by omega) (by omega) (by rw [fG];omega)
 simp only [Int.toNat_natCast,uM rg.ll rg.hh] at hF ⊢
 refine x9 hF rfl rfl (by simp) rfl ?_
 simp only [dB,sh,go_sem]
 exact Fin.aD _ rfl rfl (by simp [ay,rv,get,qd,jv])
theorem aky (cs:List ai) (h s id:Int):Fn Tryz.prog 422 [jw cs h s,I id] [] (M5 cs h s id) [] []:=by
 refine Fn.aO ajy (by simp) ?_
 unfold Vn SC.mk' M5
 simp only [go_sem]
 refine aQ (Dk cs h s) rfl rfl ?_
 simp only [go_sem]
 refine bC (fun h1=> ?_) (fun h1=> ?_)<;>simp only [h1,go_sem]
 ·have e:eZ cs h s≠0:=by simpa using h1
  rw [if_pos e]
  exact Fin.aD _ rfl rfl (by simp only [ay,rv,au,bN,zM,ai.enc,List.map_nil,go_sem])
 have e:eZ cs h s=0:=by simpa using h1
 rw [if_neg (show ¬ eZ cs h s≠0 from fun h=>h e)]
 obtain ⟨n,h',l,rg,rfl,rfl,rfl⟩:=yM e
 have:=rg.n1;have:=rg.n2;have:=rg.hh;have:=rg.ll
 have hF:=yN (eO n h' l) h' l.length (by omega) (by omega) (by rw [fG];omega)
 simp only [Int.toNat_natCast,uM rg.ll rg.hh] at hF ⊢
 refine x9 hF rfl rfl (by simp) rfl ?_
 simp only [dB,sh,Nat.zero_add,go_sem]
 refine AX (wI l id (by omega)) (by simp [au,rv,get,qd,jv]) rfl rfl ?_
 simp only [go_sem]
 refine bC (fun h2=> ?_) (fun h2=> ?_)<;>simp only [h2,go_sem]
 ·have e2:fD l id<0:=by simpa using h2
  rw [if_pos e2]
  exact Fin.aD _ rfl rfl (by simp only [ay,rv,au,bN,zM,ai.enc,List.map_nil,go_sem])
 have e2:¬ fD l id<0:=by simpa using h2
 rw [if_neg e2]
 obtain ⟨i1,i2,i3⟩:=akr e2
 rw [i3]
 simp only [Int.toNat_natCast]
 generalize (fD l id).toNat=i at i1
 refine Pn (akw l i i1 (by omega)) (by simp [au,rv,get,qd,jv]) rfl (by simp [lS,jP,na,bN,ai.enc]) (by simp) rfl rfl ?_
 have e5:(l.eraseIdx i).length=i+(l.length - (i+1)):=by rw [List.length_eraseIdx_of_lt i1];omega
 have hG:=abA (eO n h' l) (l.eraseIdx i) h' l.length h' (by rw [fG];omega) (by rw [fG];omega) (by rw [fG];omega)
 rw [fG] at hG
 simp only [dB,sh,kP,Nat.zero_add,go_sem]
 refine Pn hG (by simp [au,rv,get,jv,e5,List.take_of_length_le]) rfl (by simp [lS,jP,na,bN,ai.enc]) (by simp) rfl rfl ?_
 have q1:nth (bN l) i=(gt l i).enc:=VF i1
 simp only [dB,sh,kP,q1,Int.toNat_natCast,Nat.sub_zero,Nat.zero_add,go_sem]
 refine ⟨⟨by omega,by omega⟩,by omega,rfl,Fin.aD _ rfl rfl ?_⟩
 simp [ay,rv,au,get,ai.enc,VH,fG,jv]
end Go.Eng
namespace Go.Eng
open Go Go.Proofs
attribute [local go_sem] Int.cast_ofNat_Int Int.reduceBEq Int.reduceLT Int.reduceLE Int.reduceSub Int.reduceAdd Int.reduceNeg Int.reduceEq Int.reduceToNat decide_true decide_false decide_eq_true_eq beq_self_eq_true bne_self_eq_false List.reduceReplicate List.length_set List.length_replicate List.length_cons List.length_nil List.set_cons_zero List.set_cons_succ Int.toNat_natCast
theorem akz (cs:List ai) (h s k:Int):Fn Tryz.prog 420 [jw cs h s,I k] [] (M6 cs h s k) [] []:=by
 refine Fn.aO ajw (by simp) ?_
 unfold Vl SC.mk' M6
 simp only [go_sem]
 refine aQ (Dk cs h s) rfl rfl ?_
 simp only [go_sem]
 refine bC (fun h1=> ?_) (fun h1=> ?_)<;>simp only [h1,go_sem]
 ·have e:eZ cs h s≠0:=by simpa using h1
  rw [if_pos e]
  exact Fin.aD _ rfl rfl (by simp only [ay,rv,au,bN,List.map_nil,go_sem])
 have e:eZ cs h s=0:=by simpa using h1
 rw [if_neg (show ¬ eZ cs h s≠0 from fun h=>h e)]
 by_cases h2:k<0
 ·rw [if_pos h2]
  simp only [h2,decide_true,go_sem]
  exact Fin.aD _ rfl rfl (by simp only [ay,rv,au,bN,List.map_nil,go_sem])
 by_cases h3:s<k
 ·rw [if_neg h2,if_pos h3]
  simp only [h2,h3,decide_true,decide_false,go_sem]
  exact Fin.aD _ rfl rfl (by simp only [ay,rv,au,bN,List.map_nil,go_sem])
 rw [if_neg h2,if_neg h3]
 obtain ⟨n,h',l,rg,rfl,rfl,rfl⟩:=yM e
 have:=rg.n1;have:=rg.n2;have:=rg.hh;have:=rg.ll
 obtain ⟨k,rfl⟩:∃ k':Nat,k=k':=⟨k.toNat,by omega⟩
 have hF:=yN (eO n h' l) h' l.length (by omega) (by omega) (by rw [fG];omega)
 have e3:IntKind.i64.wrap ((l.length:Int) - (k:Int))=((l.length - k:Nat):Int):=by rw [bE (by omega)];omega
 simp only [Int.toNat_natCast,uM rg.ll rg.hh,h2,h3,decide_false,go_sem] at hF ⊢
 refine x9 hF rfl rfl (by simp) rfl ?_
 simp only [dB,sh,e3,Int.toNat_natCast,Nat.sub_zero,Nat.zero_add,go_sem]
 have e5:(l.take (l.length - k)).length=l.length - k:=by simp only [List.length_take];omega
 have hG:=abA (eO n h' l) (l.take (l.length - k)) h' l.length h' (by rw [fG];omega) (by rw [fG];omega) (by rw [fG];omega)
 rw [fG] at hG
 refine ⟨⟨by omega,by omega⟩,?_⟩
 refine Pn hG (by simp [au,rv,get,jv,yG]) rfl (by simp [lS,jP,na,bN,ai.enc]) (by simp) rfl rfl ?_
 simp only [dB,sh,kP,e3,Int.toNat_natCast,Nat.sub_zero,Nat.zero_add,go_sem]
 refine ⟨⟨by omega,by omega,by omega⟩,rfl,Fin.aD _ rfl rfl ?_⟩
 have e6:(bN (l.drop (l.length - k)))=((bN l).drop (l.length - k)).take (l.length - (l.length - k)):=by
  rw [<-abh,List.take_of_length_le (by rw [List.length_drop,jv];omega)]
 simp [ay,rv,au,get,VH,fG,jv]
 exact e6
end Go.Eng
