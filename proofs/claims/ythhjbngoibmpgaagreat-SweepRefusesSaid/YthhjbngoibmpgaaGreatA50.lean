/-
  Part of a proof: lemmas and definitions of this work.
  No condition.
-/
import Derived.Test.YthhjbngoibmpgaaGreatA08
import Derived.Test.YthhjbngoibmpgaaGreatA49
import Derived.Test.YthhjbngoibmpgaaGreatA23
import Derived.Test.YthhjbngoibmpgaaGreatA05
import Derived.Test.YthhjbngoibmpgaaGreatA04
import Derived.Test.YthhjbngoibmpgaaGreatA17
set_option linter.all false
set_option maxRecDepth 100000
set_option maxHeartbeats 8000000
namespace Go.Eng
open Go Go.Proofs
attribute [local go_sem] aj.enc av.enc Task.enc Ev.enc bD.enc bf.enc cB.enc Dead.enc Dir.enc ak.enc Walk.enc aV.enc aJ.enc bL.enc Setup.enc aS dY dZ List.length_map Int.toNat_natCast
theorem ao2 (w:aH) (c:bG) {n m:Nat} (h:w.wf n m) (hl:w.aW) (hm:m+256<=1000000) (hr:c.refs.length<=1000):Fn Tryz.prog 110 [.agg w.enc,.agg c.enc] [] (.aF [.agg (w.ni c).1.enc,I (w.ni c).2]) [] []:=by
 generalize hR:w.ni c=R
 unfold aH.ni at hR
 simp only at hR
 by_cases k1:(c.kind==1)=true
 ·simp only [if_pos k1] at hR
  generalize hb:max 0 (min c.dM 255)=b at hR
  have b0:0<=b:=by omega
  have b1:b<=255:=by omega
  refine Fn.aT bR yx (by simp) ?_
  unfold uG SC.mk' aH.enc bG.enc
  simp only [k1,hb,go_sem]
  refine go_loop (fun x:{x:Nat×aH // x.1<=b.toNat/\x.2.wf n (m+x.1)/\x.2.aW/\qo c.pick (b.toNat - x.1) x.2=R}=>⟨5000,[(2,.ptr 8 0),(3,.ptr 16 0),(4,.ptr 24 0),(6,I b),(7,I x.1.1)],[(8,.box x.1.2.enc),(16,.box c.enc),(24,.box [I 0,I 0,I 0,I 0,I 0,I 0,I 0,I 0,Nl,Nl,I 0,I 0,Nl,I 0,Nl,Nl,I 0,I 0,I 0,Nl,Nl,I 0,Nl])]⟩) (fun x=>b.toNat - x.1.1) ⟨(0,w),by omega,by simpa using h,hl,by simpa using hR⟩ (Wk.mk [(8,8),(16,16),(24,24)] [] rfl rfl (by simp only [cZ,bO,au,rv,aH.enc,bG.enc,go_sem]<;>try simp) trivial (by simp only [eG,rv,au,go_sem]<;>try simp)) ?_
  rintro ⟨⟨j,v⟩,hj,hwf,nD,he⟩ B hB
  simp only at hj hwf nD he
  have hlt:=hwf.tl
  simp only [aH.enc,bG.enc,go_sem]
  by_cases e1:(j:Int)<b
  ·have e2:decide ((j:Int)<b)=true:=by simpa using e1
   have hw:=bT (show j<=100000 by omega)
   obtain ⟨f,hf⟩:∃ f,b.toNat - j=f+1:=⟨b.toNat - j - 1,by omega⟩
   rw [hf] at he
   simp only [qo] at he
   have ho:=Xr v (by omega)
   have hol:v.opn.length<=v.tasks.length:=Wd _ _
   by_cases h0:v.opn.length=0
   ·rw [if_pos h0] at he
    subst he
    have h0':((v.opn.length:Int)==0)=true:=by simp [h0]
    simp only [e2,go_sem]
    have hJ:=ah h0' (ah bG.enc.eq_1 aH.enc.eq_1)
    exact aZ
   ·rw [if_neg h0] at he
    have h0':((v.opn.length:Int)==0)=false:=by simp [h0]
    have h0n:((v.opn.length:Int)≠0):=by omega
    have hp:=aoY v ((max c.pick 0).tmod v.opn.length) hwf nD (by omega)
    have hpw:=fun e=>aH.Wi (k:=(max c.pick 0).tmod v.opn.length) hwf (by omega) e
    have hpl:=fun e=>aH.ade (k:=(max c.pick 0).tmod v.opn.length) hwf nD e
    generalize v.pick ((max c.pick 0).tmod v.opn.length)=y at he hp hpw hpl
    by_cases h3:y.2≠0
    ·rw [if_pos h3] at he
     subst he
     have h3':(y.2 !=0)=true:=by simpa using h3
     simp only [e2,go_sem]
     have hJ:=ah h0' (ah h0n (ah h3' (ah bG.enc.eq_1 aH.enc.eq_1)))
     exact aZ
    ·rw [if_neg h3] at he
     have h3':(y.2 !=0)=false:=by simpa using h3
     have hpw:=hpw (Decidable.not_not.1 h3)
     have hpl:=hpl (Decidable.not_not.1 h3)
     simp only [e2,go_sem]
     have hJ:=ah h0' (ah h0n (ah h3' hw))
     repeat' first
      |(first|refine sC ?_|refine sD ?_|refine sZ ?_|refine sY ?_|refine sF ?_);simp only [hJ,bG.enc,aH.enc,go_sem]
      |(first|refine bC (fun hq=> ?_) (fun hq=> ?_)|refine dR (fun hq=> ?_) (fun hq=> ?_)|refine dD (fun hq=> ?_) (fun hq=> ?_))<;>simp only [hq,hJ,bG.enc,aH.enc,go_sem]
      |refine sM ?_;simp only [ay,rv,au,get,hJ,bG.enc,aH.enc,go_sem]
      |refine bn ?_
      |fail
     all_goals clear hJ
     have he2:qo c.pick (b.toNat - (j+1)) y.1=R:=by rw [show b.toNat - (j+1)=f by omega];exact he
     exact hB _ ⟨(j+1,y.1),by simp only;omega,hpw,hpl,he2⟩ (by simp only;omega) (Wk.mk [(8,8),(16,16),(24,24)] [] rfl rfl (by simp only [cZ,bO,au,rv,aH.enc,bG.enc,go_sem]<;>try simp) trivial (by simp only [eG,rv,au,go_sem]<;>try simp))
  ·have e2:decide ((j:Int)<b)=false:=by simpa using e1
   rw [show b.toNat - j=0 by omega] at he
   simp only [qo] at he
   subst he
   simp only [e2,go_sem]
   have hJ:=ah bG.enc.eq_1 aH.enc.eq_1
   exact aZ
 simp only [Bool.not_eq_true] at k1
 simp only [k1,Bool.false_eq_true,if_false] at hR
 by_cases k2:(c.kind==2)=true
 ·simp only [if_pos k2] at hR
  generalize hb:max 0 (min c.dM 255)=b at hR
  have ht:=aoG w b (by have:=h.lg;omega)
  generalize w.tick b=y at hR ht
  by_cases h3:(y.2==0)=true
  ·rw [if_pos h3] at hR
   subst hR
   refine Fn.aT bR yx (by simp) ?_
   unfold uG SC.mk' aH.enc bG.enc
   simp only [k1,k2,hb,go_sem]
   have hJ:=ah h3 aH.enc.eq_1
   exact aZ
  ·rw [if_neg h3] at hR
   simp only [Bool.not_eq_true] at h3
   subst hR
   refine Fn.aT bR yx (by simp) ?_
   unfold uG SC.mk' aH.enc bG.enc
   simp only [k1,k2,hb,go_sem]
   have hJ:=ah h3 aH.enc.eq_1
   exact aZ
 simp only [Bool.not_eq_true] at k2
 simp only [k2,Bool.false_eq_true,if_false] at hR
 by_cases k3:(c.kind==3)=true
 ·simp only [if_pos k3] at hR
  have htl:=h.tl
  by_cases hrf:0<c.refs.length
  ·rw [if_pos hrf] at hR
   have N8:decide ((0:Int)<(c.refs.length:Int))=true:=by simp;omega
   have hin:=adC w {c.inv with tokens:=c.refs.map fun r=>yQ r.index r.variant r.raw w.handles} (by omega)
   generalize w.invoke {c.inv with tokens:=c.refs.map fun r=>yQ r.index r.variant r.raw w.handles}=y at hR hin
   generalize hf:(fun r:dw=>yQ r.index r.variant r.raw w.handles)=f at hin
   refine Fn.aT bR yx (by simp) ?_
   unfold uG SC.mk' aH.enc bG.enc
   simp only [k1,k2,k3,N8,List.length_map,go_sem]
   refine go_loop (fun j:{j:Nat // j<=c.refs.length}=>⟨5000,[(2,.ptr 8 0),(3,.ptr 16 0),(4,.ptr 24 0),(13,.ptr 160 0),(14,I j.1)],[(8,.box w.enc),(16,.box c.enc),(24,.box [I 0,I 0,I 0,I 0,I 0,I 0,I 0,I 0,Nl,Nl,I 0,I 0,Nl,I 0,Nl,Nl,I 0,I 0,I 0,Nl,Nl,I 0,Nl]),(160,.box [I c.inv.kind,I c.inv.home,I c.inv.max_,I c.inv.bB,I c.inv.bq,I c.inv.to,.sl 1 (encS c.inv.bodies),.own 4000 1 0 j.1]),(4000,.row 91 1 (bW ((c.refs.take j.1).map f)))]⟩) (fun j=>c.refs.length - j.1) ⟨0,by omega⟩ (Wk.mk [(8,8),(16,16),(24,24),(160,160)] [4000] rfl rfl (by simp only [cZ,bO,au,rv,aH.enc,bG.enc,go_sem]<;>try simp) (by simp only [gY,go_sem]<;>try simp [bW]) (by simp only [eG,rv,au,go_sem]<;>try simp)) ?_
   rintro ⟨j,hj⟩ B hB
   simp only [aH.enc,bG.enc,go_sem]
   by_cases e1:j<c.refs.length
   ·have e2:decide ((j:Int)<(c.refs.length:Int))=true:=by simp;omega
    have hw:=bT (show j<=100000 by omega)
    have hx:nth (c.refs.map dw.enc) j=dw.enc (c.refs[j]?.getD dw.z):=bS dw.enc dw.z e1
    have ht:c.refs.take (j+1)=c.refs.take j++[c.refs[j]?.getD dw.z]:=Bj dw.z e1
    generalize c.refs[j]?.getD dw.z=r at hx ht
    have hm1:j+1<=maxLen:=Nat.le_trans (show j+1<=2000 by omega) (by decide)
    have l1:(bW ((c.refs.take j).map f)).length=j:=by simp [bW];omega
    have t1:List.take j (bW ((c.refs.take j).map f))=bW ((c.refs.take j).map f):=bA (by omega)
    have e4:bW ((c.refs.take j).map f)++[[gK (yQ r.index r.variant r.raw w.handles)]]=bW ((c.refs.take (j+1)).map f):=by rw [ht,<-hf];simp [bW]
    have hB':=hB
    clear hB
    simp only [e2,hx,hw,l1,t1,dw.enc,Int.toNat_natCast,dZ,List.length_map,go_sem]
    repeat' first
     |(refine um ?_;simp only [e2,hx,hw,l1,t1,e4,dw.enc,Int.toNat_natCast,List.length_map,go_sem])
     |(refine aQ (abN r.index r.variant r.raw w.handles) rfl rfl ?_;simp only [e2,hx,hw,l1,t1,e4,dw.enc,Int.toNat_natCast,List.length_map,go_sem])
     |(refine bX (abN r.index r.variant r.raw w.handles) rfl rfl ?_;simp only [e2,hx,hw,l1,t1,e4,dw.enc,Int.toNat_natCast,List.length_map,go_sem])
     |refine bn ?_
     |fail
    exact hB' _ ⟨j+1,by omega⟩ (by simp only;omega) (Wk.mk [(8,8),(16,16),(24,24),(160,160),(4000,5128)] [] rfl rfl (by simp only [cZ,bO,au,rv,aH.enc,bG.enc,go_sem]<;>try simp) trivial (by simp only [eG,rv,au,go_sem]<;>try simp))
   ·have e2:decide ((j:Int)<(c.refs.length:Int))=false:=by simp;omega
    have hjl:j=c.refs.length:=by omega
    have tt:c.refs.take j=c.refs:=bA (by omega)
    have l1:(bW (c.refs.map f)).length=j:=by simp [bW];omega
    have t1:List.take j (bW (c.refs.map f))=bW (c.refs.map f):=bA (by omega)
    clear hB
    by_cases h3:(y.2.2==0)=true
    ·rw [if_pos h3] at hR
     subst hR
     simp only [e2,tt,go_sem]
     have hJ:=ah h3 (ah l1 (ah t1 (ah aH.enc.eq_1 bM.enc.eq_1)))
     exact aZ
    ·rw [if_neg h3] at hR
     simp only [Bool.not_eq_true] at h3
     subst hR
     simp only [e2,tt,go_sem]
     have hJ:=ah h3 (ah l1 (ah t1 (ah aH.enc.eq_1 bM.enc.eq_1)))
     exact aZ
  ·rw [if_neg hrf] at hR
   have N8:decide ((0:Int)<(c.refs.length:Int))=false:=decide_eq_false (by omega)
   have hin:=adC w c.inv (by omega)
   generalize w.invoke c.inv=y at hR hin
   by_cases h3:(y.2.2==0)=true
   ·rw [if_pos h3] at hR
    subst hR
    refine Fn.aT bR yx (by simp) ?_
    unfold uG SC.mk' aH.enc bG.enc
    simp only [k1,k2,k3,N8,List.length_map,go_sem]
    have hJ:=ah h3 (ah aH.enc.eq_1 bM.enc.eq_1)
    exact aZ
   ·rw [if_neg h3] at hR
    simp only [Bool.not_eq_true] at h3
    subst hR
    refine Fn.aT bR yx (by simp) ?_
    unfold uG SC.mk' aH.enc bG.enc
    simp only [k1,k2,k3,N8,List.length_map,go_sem]
    have hJ:=ah h3 (ah aH.enc.eq_1 bM.enc.eq_1)
    exact aZ
 ·rw [if_neg k3] at hR
  simp only [Bool.not_eq_true] at k3
  subst hR
  refine Fn.aT bR yx (by simp) ?_
  unfold uG SC.mk' aH.enc bG.enc
  simp only [k1,k2,k3,go_sem]
  have hJ:=aH.enc.eq_1
  exact aZ
theorem ao3 (u:Setup) (l:List bG) (hl:l.length<=400) (hr:∀ c ∈ l,c.refs.length<=1000):Fn Tryz.prog 47 [.agg u.enc,.sl 12 (l.map bG.enc)] [] (.aF [.agg (aH.run u l).1.enc,I (aH.run u l).2]) [] []:=by
 generalize hR:aH.run u l=R
 unfold aH.run at hR
 have hn:=adz u
 have hok:=fun e=>aH.ao1 (u:=u) e
 generalize aH.new u=x at hR hn hok
 by_cases e:x.2≠0
 ·rw [if_pos e] at hR
  subst hR
  have e':(x.2 !=0)=true:=by simpa using e
  refine Fn.aT bR aas (by simp) ?_
  unfold L8 SC.mk' Setup.enc
  simp only [go_sem]
  have hJ:=ah e' aH.enc.eq_1
  exact aZ
 ·rw [if_neg e,if_neg (show ¬ (400:Int)<l.length by omega)] at hR
  have e':(x.2 !=0)=false:=by simpa using e
  have e4:decide ((400:Int)<(l.length:Int))=false:=decide_eq_false (by omega)
  obtain ⟨n,hwf,nD⟩:=hok (Decidable.not_not.1 e)
  refine Fn.aT bR aas (by simp) ?_
  unfold L8 SC.mk' Setup.enc
  simp only [go_sem]
  have hJ:=ah e' e4
  repeat' first
   |(first|refine sC ?_|refine sD ?_|refine sZ ?_|refine sY ?_|refine sF ?_);simp only [hJ,aH.enc,List.length_map,go_sem]
   |(first|refine bC (fun hq=> ?_) (fun hq=> ?_)|refine dR (fun hq=> ?_) (fun hq=> ?_)|refine dD (fun hq=> ?_) (fun hq=> ?_))<;>simp only [hq,hJ,aH.enc,List.length_map,go_sem]
   |refine sM ?_;simp only [ay,rv,au,get,hJ,aH.enc,List.length_map,go_sem]
   |refine bn ?_
   |fail
  all_goals clear hJ
  refine go_loop (fun y:{y:Nat×aH // y.1<=l.length/\y.2.wf n (256*y.1)/\y.2.aW/\Dx (l.drop y.1) y.2=R}=>⟨5000,[(1,.sl 12 (l.map bG.enc)),(2,.ptr 8 0),(4,.ptr 16 0),(6,.ptr 72 0),(8,I y.1.1)],[(8,.box u.enc),(16,.box [I 0,I 0,I 0,I 0,I 0,I 0,I 0,I 0,Nl,Nl,I 0,I 0,Nl,I 0,Nl,Nl,I 0,I 0,I 0,Nl,Nl,I 0,Nl]),(72,.box y.1.2.enc)]⟩) (fun y=>l.length - y.1.1) ⟨(0,x.1),Nat.zero_le _,by simpa using hwf,nD,by simpa using hR⟩ (Wk.mk [(8,8),(16,16),(72,72)] [] rfl rfl (by simp only [cZ,bO,au,rv,aH.enc,Setup.enc,go_sem]<;>try simp) trivial (by simp only [eG,rv,au,go_sem]<;>try simp)) ?_
  rintro ⟨⟨j,v⟩,hj,hwf,nD,he⟩ B hB
  simp only at hj hwf nD he
  simp only [aH.enc,Setup.enc,go_sem]
  by_cases e1:j<l.length
  ·have e2:decide ((j:Int)<(l.length:Int))=true:=by simp;omega
   have hw:=bT (show j<=100000 by omega)
   rw [eB bG.z e1] at he
   simp only [Dx] at he
   have hx:nth (l.map bG.enc) j=bG.enc (l[j]?.getD bG.z):=bS bG.enc bG.z e1
   have hrc:(l[j]?.getD bG.z).refs.length<=1000:=by
    rw [List.getElem?_eq_getElem e1];exact hr _ (List.getElem_mem _)
   generalize l[j]?.getD bG.z=c at he hx hrc
   have hd:=ao2 v c hwf nD (by omega) hrc
   have hdw:=fun e=>aH.alK (c:=c) hwf (by omega) e
   have hdl:=fun e=>aH.aoI (c:=c) hwf nD (by omega) e
   generalize v.ni c=y at he hd hdw hdl
   by_cases h3:y.2≠0
   ·rw [if_pos h3] at he
    subst he
    have h3':(y.2 !=0)=true:=by simpa using h3
    simp only [e2,hx,bG.enc,Int.toNat_natCast,List.length_map,go_sem]
    have hJ:=ah h3' (ah hx (ah bG.enc.eq_1 aH.enc.eq_1))
    exact aZ
   ·rw [if_neg h3] at he
    have h3':(y.2 !=0)=false:=by simpa using h3
    have hdw:=hdw (Decidable.not_not.1 h3)
    have hdl:=hdl (Decidable.not_not.1 h3)
    simp only [e2,hx,bG.enc,Int.toNat_natCast,List.length_map,go_sem]
    have hJ:=ah h3' (ah hx hw)
    repeat' first
     |(first|refine sC ?_|refine sD ?_|refine sZ ?_|refine sY ?_|refine sF ?_);simp only [hJ,bG.enc,aH.enc,Int.toNat_natCast,go_sem]
     |(first|refine bC (fun hq=> ?_) (fun hq=> ?_)|refine dR (fun hq=> ?_) (fun hq=> ?_)|refine dD (fun hq=> ?_) (fun hq=> ?_))<;>simp only [hq,hJ,bG.enc,aH.enc,Int.toNat_natCast,go_sem]
     |refine sM ?_;simp only [ay,rv,au,get,hJ,bG.enc,aH.enc,Int.toNat_natCast,go_sem]
     |refine bn ?_
     |fail
    all_goals clear hJ
    exact hB _ ⟨(j+1,y.1),e1,by rw [Nat.mul_add];exact hdw,hdl,he⟩ (by simp only;omega) (Wk.mk [(8,8),(16,16),(72,72)] [] rfl rfl (by simp only [cZ,bO,au,rv,aH.enc,Setup.enc,go_sem]<;>try simp) trivial (by simp only [eG,rv,au,go_sem]<;>try simp))
  ·have e2:decide ((j:Int)<(l.length:Int))=false:=by simp;omega
   rw [eH (by omega)] at he
   simp only [Dx] at he
   subst he
   simp only [e2,List.length_map,go_sem]
   have hJ:=ah bG.enc.eq_1 aH.enc.eq_1
   exact aZ
end Go.Eng
namespace Go.Eng
open Go Go.Proofs
theorem adG (l:List Int):∀ (i a:Nat) (acc:List dw),(iM l i a acc).1.length=acc.length+i
 |0,a,acc=>rfl
 |i+1,a,acc=>by simp only [iM,adG l i,List.length_append,List.length_cons,List.length_nil];omega
theorem ao4 (c:bG):(mq c).refs=c.refs:=by unfold mq;split<;>rfl
theorem ao5 (l:List Int) (a:Nat):(ru l a).1.refs.length<=1000:=by
 unfold ru
 simp only
 repeat' split
 all_goals simp only [ao4,fT,adG,List.length_nil]
 all_goals
  have h1:=wF l (nN l (eD l (nN l (nN l a 20) 4) 3 5) 4) (lo:=1) (hi:=2) (by omega)
  have h2:=wF l (eD l (nN l (nN l a 20) 4) 3 5) (lo:=1) (hi:=2) (by omega)
  omega
theorem adH (l:List Int):∀ (n a:Nat) (acc:List bG),(∀ c ∈ acc,c.refs.length<=1000)->(oZ l n a acc).1.length<=acc.length+n/\∀ c ∈ (oZ l n a acc).1,c.refs.length<=1000
 |0,a,acc,h=>⟨Nat.le_refl _,h⟩
 |n+1,a,acc,h=>by
  simp only [oZ]
  split
  ·have:=adH l n (ru l a).2 (acc++[(ru l a).1]) (fun c hc=>by
    rcases List.mem_append.1 hc with hc|hc
    ·exact h c hc
    ·rw [List.mem_singleton.1 hc];exact ao5 l a)
   refine ⟨?_,this.2⟩
   have h1:=this.1
   simp only [List.length_append,List.length_cons,List.length_nil] at h1
   omega
  ·exact ⟨by simp only;omega,h⟩
theorem Xt (l:List Int) (a n:Nat) (hl:l.length<=4000) (hn:n<=400):Fn Tryz.prog 12 [.ptr 0 0,I n] [dU l a] (.agg (o6 l n a).1.enc) [dU l (o6 l n a).2] []:=by
 generalize hR:o6 l n a=R
 unfold o6 at hR
 simp only at hR
 have hs:=amA l a hl
 generalize Bg l a=u at hR hs
 have hc:=amC l u.2 n hl (by omega)
 have hk:=adH l n u.2 [] (by simp)
 generalize oZ l n u.2 []=c at hR hc hk
 have hr:=ao3 u.1 c.1 (by have:=hk.1;simp at this;omega) hk.2
 generalize aH.run u.1 c.1=x at hR hr
 have hz:=adz ⟨1,1,1,1,1,0,1,0⟩
 generalize aH.new ⟨1,1,1,1,1,0,1,0⟩=z at hR hz
 subst hR
 refine Fn.aO aie (by simp) ?_
 unfold s12 SC.mk'
 simp only [go_sem]
 refine d9 (b:=0) hs ⟨rfl,trivial⟩ rfl rfl rfl rfl ?_
 simp only [Setup.enc,go_sem]
 refine d9 (b:=0) hc ⟨rfl,⟨rfl,rfl⟩,trivial⟩ rfl rfl rfl rfl ?_
 simp only [Setup.enc,go_sem]
 refine aQ hr rfl rfl ?_
 simp only [aH.enc,go_sem]
 by_cases e:x.2≠0
 ·have e':(x.2 !=0)=true:=by simpa using e
  simp only [e',go_sem]
  refine aQ hz rfl rfl ?_
  simp only [aH.enc,go_sem]
  exact Fin.kR _ rfl rfl rfl (by simp [au,rv]) (by simp [ay,au,rv,get,e])
 ·have e':(x.2 !=0)=false:=by simpa using e
  simp only [e',go_sem]
  exact Fin.kR _ rfl rfl rfl (by simp [au,rv]) (by simp [ay,au,rv,get,Decidable.not_not.1 e])
end Go.Eng
namespace Go.Eng
open Go
theorem gu.fin {P:Program} {f:FuncId} {xs:List AV} {bs:List (List AV)} {gs es0:List Ob} {r0:AV} {Xu:List (List AV)} (hF:gu P f xs bs gs r0 Xu es0) {t:List (Nat×AV)} {res:List iJ} {vs:List AV} (hv:jO t (outs Xu es0) res=some vs) (h1:ay vs=r0)
 {r:AV} {bs':List (List AV)} {es:List Ob} (hE:Fin res r bs' es t (outs Xu es0)):gu P f xs bs gs r bs' es:=by
 obtain ⟨S,N,ys,e1,e2,e3,e4,e5⟩:=hE
 rw [hv] at e1
 cases e1
 rw [h1] at e5
 refine ⟨hF.1,fun C ρ U w vals hr hU hw=>(hF.2 C ρ U w vals hr hU hw).mono fun e w' he=> ?_⟩
 obtain ⟨v,ρ',U',rfl,g1,g2⟩:=he
 exact ⟨v,_,_,rfl,xO (S:=S) (N:=N) g1 e2 e3 e4,lD (S:=S) (N:=N) g1 g2 _ e5⟩
def o8 (a b:RunT):RunT:=fun f xs bs gs=>match a f xs bs gs with
 |some r=>some r
 |none=>b f xs bs gs
theorem rE {P:Program} {a b:RunT} (ha:fI P a) (hb:fI P b):fI P (o8 a b):=by
 intro f xs bs gs vs h e
 unfold o8 at e
 split at e
 ·rename_i r hr
  cases e
  exact ha _ _ _ _ _ _ hr
 ·exact hb _ _ _ _ _ _ e
def rF (L:List (Nat×Nat×Nat)):RunT:=fun f xs bs gs=>match xs,bs,gs with
 |[.sl sz ys],[],[]=>match get L f with
  |some (e,s)=>if s=sz/\ys.length<=10000 then some ([.own 4 sz 0 ys.length],[(4,.row e sz ys)]) else none
  |none=>none
 |_,_,_=>none
theorem vz {P:Program} {L:List (Nat×Nat×Nat)} (hL:∀ p ∈ L,∀ xs:List (List AV),xs.length<=10000->gu P p.1 [.sl p.2.2 xs] [] [] (.own 4 p.2.2 0 xs.length) [] [.row p.2.1 p.2.2 xs]):fI P (rF L):=by
 intro f xs bs gs vs h e
 unfold rF at e
 split at e
 ·rename_i sz ys
  split at e
  ·rename_i e0 s hg
   split at e
   ·rename_i hc
    obtain ⟨rfl,hl⟩:=hc
    cases e
    exact ⟨[(0,.own 4 s 0 ys.length)],[.tmp 0],rfl,fun r bs' es hE=>(hL _ (get_mem hg) ys hl).fin (t:=[(0,.own 4 s 0 ys.length)]) (res:=[.tmp 0]) rfl rfl hE⟩
   ·cases e
  ·cases e
 ·cases e
noncomputable def adI (l:List Nat) (f:Nat):Bool:= @List.rec Nat (fun _=>Bool) false (fun g _ ih=>cond (Nat.beq g f) true ih) l
noncomputable def zB (L:List Nat) (run:RunT):RunT:=fun f xs bs gs=>bif adI L f then (match bs,gs with
 |[],[]=>match run f xs [] [] with
  |some (vs,h)=>match ol 0 [] vs h with
   |some (.aF [a,b],_,_)=>some ([a,b],[])
   |some (.aF [a,b,c],_,_)=>some ([a,b,c],[])
   |some (.agg cs,_,_)=>some ([.agg cs],[])
   |_=>none
  |none=>none
 |_,_=>none) else none
theorem DY {P:Program} {L:List Nat} {run:RunT} (hrun:fI P run):fI P (zB L run):=by
 intro f xs bs gs vs h e
 unfold zB at e
 cases hm:adI L f with
 |false=>rw [hm] at e;cases e
 |true=>
  rw [hm] at e
  simp only [cond_true] at e
  split at e
  ·split at e
   ·rename_i vs1 h1 hr
    have key:∀ {r0:AV} {bs':List (List AV)} {es:List Ob},ol 0 [] vs1 h1=some (r0,bs',es)->gu P f xs [] [] r0 [] []:=by
     intro r0 bs' es hF
     obtain ⟨t,res,hv,hrun'⟩:=hrun _ _ _ _ _ _ hr
     obtain ⟨yh,hl,_⟩:=Ao hv hF
     have hb0:bs'=[]:=List.length_eq_zero_iff.1 hl
     subst hb0
     have he0:=P8 hF
     subst he0
     exact hrun' _ _ _ yh
    split at e
    ·rename_i a b _ _ hF
     cases e
     exact ⟨[(0,a),(1,b)],[.tmp 0,.tmp 1],rfl,fun r bs' es hE=>(key hF).fin (t:=[(0,a),(1,b)]) (res:=[.tmp 0,.tmp 1]) rfl rfl hE⟩
    ·rename_i a b c _ _ hF
     cases e
     exact ⟨[(0,a),(1,b),(2,c)],[.tmp 0,.tmp 1,.tmp 2],rfl,fun r bs' es hE=>(key hF).fin (t:=[(0,a),(1,b),(2,c)]) (res:=[.tmp 0,.tmp 1,.tmp 2]) rfl rfl hE⟩
    ·rename_i cs _ _ hF
     cases e
     exact ⟨[(0,.agg cs)],[.tmp 0],rfl,fun r bs' es hE=>(key hF).fin (t:=[(0,.agg cs)]) (res:=[.tmp 0]) rfl rfl hE⟩
    ·cases e
   ·cases e
  ·cases e
structure rG (P:Program) where
 f:FuncId
 F:oq
 ok:aA P f F.sc F.res F.nt
def rG.mk' {P:Program} {f:FuncId} {sc:eY} {res:List iJ} {nt:Nat} (h:aA P f sc res nt):rG P:=⟨f,⟨sc,res,nt⟩,h⟩
noncomputable def DZ {P:Program} (l:List (rG P)) (f:FuncId):Option oq:= @List.rec (rG P) (fun _=>Option oq) none (fun p _ ih=>cond (Nat.beq p.f f) (some p.F) ih) l
theorem N9 {P:Program}:∀ (l:List (rG P)),wm P (DZ l)
 |[],f,F,h=>by cases h
 |p::l,f,F,h=>by
  have h:cond (Nat.beq p.f f) (some p.F) (DZ l f)=some F:=h
  cases hb:Nat.beq p.f f with
  |true=>
   rw [hb] at h
   cases h
   rw [<-Nat.eq_of_beq_eq_true hb]
   exact p.ok
  |false=>
   rw [hb] at h
   exact N9 l f F h
def Xv:Value->Value->Bool
 | .int k a,.int k' b=>decide (k=k')&&decide (a=b)
 | .bool a,.bool b=>a==b
 | .slice none 0 0,.slice none 0 0=>true
 | .string a,.string b=>a.data.toList==b.data.toList
 |_,_=>false
theorem ao6:∀ {x y:Value},Xv x y=true->x=y:=by
 intro x y h
 unfold Xv at h
 split at h
 ·simp only [Bool.and_eq_true,decide_eq_true_eq] at h;rw [h.1,h.2]
 ·rw [eq_of_beq h]
 ·rfl
 ·rename_i a b
  obtain ⟨⟨a⟩⟩:=a
  obtain ⟨⟨b⟩⟩:=b
  rw [show a=b from eq_of_beq h]
 ·cases h
mutual
def o9:AV->AV->Bool
 | .v x,.v y=>Xv x y
 | .agg xs,.agg ys=>tL xs ys
 | .sl n xs,.sl m ys=>bif Nat.beq n m then Bw xs ys else false
 |_,_=>false
def tL:List AV->List AV->Bool
 |[],[]=>true
 |x::xs,y::ys=>bif o9 x y then tL xs ys else false
 |_,_=>false
def Bw:List (List AV)->List (List AV)->Bool
 |[],[]=>true
 |x::xs,y::ys=>bif tL x y then Bw xs ys else false
 |_,_=>false
end
mutual
theorem ao7:∀ (x y:AV),o9 x y=true->x=y
 | .v x,y,h=>by
  cases y<;>simp only [o9] at h<;>first|(rw [ao6 h])|cases h
 | .agg xs,y,h=>by
  cases y<;>simp only [o9] at h<;>first|(rw [Oa _ _ h])|cases h
 | .sl n xs,y,h=>by
  cases y<;>simp only [o9] at h<;>try (cases h;done)
  rename_i m ys
  cases hb:Nat.beq n m with
  |false=>rw [hb] at h;cases h
  |true=>rw [hb] at h;rw [Nat.eq_of_beq_eq_true hb,adJ _ _ h]
 | .aF _,y,h=>by cases y<;>simp only [o9] at h<;>cases h
 | .own _ _ _ _,y,h=>by cases y<;>simp only [o9] at h<;>cases h
 | .ptr _ _,y,h=>by cases y<;>simp only [o9] at h<;>cases h
 | .rp _ _ _ _,y,h=>by cases y<;>simp only [o9] at h<;>cases h
 | .dG _ _,y,h=>by cases y<;>simp only [o9] at h<;>cases h
 | .mp _,y,h=>by cases y<;>simp only [o9] at h<;>cases h
 | .fn _ _,y,h=>by cases y<;>simp only [o9] at h<;>cases h
theorem Oa:∀ (xs ys:List AV),tL xs ys=true->xs=ys
 |[],[],_=>rfl
 |x::xs,y::ys,h=>by
  simp only [tL] at h
  cases hb:o9 x y with
  |false=>rw [hb] at h;cases h
  |true=>rw [hb] at h;rw [ao7 _ _ hb,Oa _ _ h]
 |[],_::_,h=>by simp [tL] at h
 |_::_,[],h=>by simp [tL] at h
theorem adJ:∀ (xs ys:List (List AV)),Bw xs ys=true->xs=ys
 |[],[],_=>rfl
 |x::xs,y::ys,h=>by
  simp only [Bw] at h
  cases hb:tL x y with
  |false=>rw [hb] at h;cases h
  |true=>rw [hb] at h;rw [Oa _ _ hb,adJ _ _ h]
 |[],_::_,h=>by simp [Bw] at h
 |_::_,[],h=>by simp [Bw] at h
end
def xw (f0:Nat) (D5:List AV) (r:AV):RunT:=fun f xs bs gs=>bif Nat.beq f f0 then (match bs,gs with
 |[],[]=>bif tL xs D5 then some ([r],[]) else none
 |_,_=>none) else none
theorem Bz {P:Program} {f0:Nat} {D5:List AV} {r:AV} (hF:gu P f0 D5 [] [] r [] []):fI P (xw f0 D5 r):=by
 intro f xs bs gs vs h e
 unfold xw at e
 cases hf:Nat.beq f f0 with
 |false=>rw [hf] at e;cases e
 |true=>
  rw [hf] at e
  simp only [cond_true] at e
  have hf:=Nat.eq_of_beq_eq_true hf
  subst hf
  split at e
  ·cases hx:tL xs D5 with
   |false=>rw [hx] at e;cases e
   |true=>
    rw [hx] at e
    have hx:=Oa _ _ hx
    subst hx
    cases e
    exact ⟨[(0,r)],[.tmp 0],rfl,fun r' bs' es hE=>hF.fin (t:=[(0,r)]) (res:=[.tmp 0]) rfl rfl hE⟩
  ·cases e
theorem BA {P:Program} {hk:RunT} {code:FuncId->Option oq} (hh:fI P hk) (hc:wm P code) {k:Nat} {f:FuncId} {xs:List AV} {r:AV} (e:ou hk code k f xs=some r):gu P f xs [] [] r [] []:=by
 simp only [ou] at e
 split at e
 ·rename_i vs h hr
  split at e
  ·rename_i r' b es hP
   cases e
   obtain ⟨t,res,hv,hrun⟩:=uF hh hc (yw hh hc k) _ _ _ _ _ _ hr
   obtain ⟨hF,hl,_⟩:=Ao hv hP
   have hb0:b=[]:=List.length_eq_zero_iff.1 hl
   subst hb0
   have he0:es=[]:=P8 hP
   subst he0
   exact hrun _ _ _ hF
  ·cases e
 ·cases e
section
variable {P:Program} {C:Ctx} {hk:RunT} {code:FuncId->Option oq}
end
end Go.Eng
namespace Go.Eng
open Go Go.Proofs
section
variable {P:Program} {f g nt sz:Nat} {α:Type} (enc:α->List AV) (z:α) (hlen:∀ x,(enc x).length=sz)
include z hlen
end
end Go.Eng
namespace Go.Eng
open Go Go.Proofs
abbrev adK (e sz dM:Nat) (zs:List Value):eY:=(.seq (.region [⟨(some 2),.jE (.const (.slice none 0 0)),none,[]⟩] false) (.seq (.seq (.region [⟨(some 3),.jE (.tmp 0),none,[]⟩,⟨(some 4),.lM false (.tmp 3),none,[]⟩] false) (.cond (.tmp 4) (.seq (.region [⟨(some 2),.jE (.const (.slice none 0 0)),none,[]⟩] false) .ret) .skip)) (.seq (.region [⟨(some 5),.lq e sz zs 0 [],none,[]⟩,⟨(some 6),.jE (.tmp 0),none,[]⟩,⟨(some 7),.app e sz dM zs (.tmp 5) (.tmp 6),none,[]⟩,⟨(some 2),.jE (.tmp 7),none,[]⟩] false) .ret)))
section
variable {P:Program} {f f0 g nt sz e dM:Nat} {zs:List Value}
end
end Go.Eng
namespace Go.Eng
open Go Go.Proofs
section
variable {P:Program} {f nt sz e dM:Nat} {zs:List Value}
theorem jD (hok:aA P f (adK e sz dM zs) [.tmp 2] nt) (hnt:1<=nt) (xs:List (List AV)) (hl:xs.length<=10000) (hby:dM<=10000):gu P f [.sl sz xs] [] [] (.own 4 sz 0 xs.length) [] [.row e sz xs]:=by
 refine gu.aO hok (by simpa using hnt) ?_
 unfold adK
 have mx:∀ j:Nat,j<=10000->j<=maxLen:=fun j h=>Nat.le_trans h (by decide)
 have hb:xs.length*dM<=140737488355328:=Nat.le_trans (Nat.mul_le_mul hl hby) (by decide)
 have hm:=mx xs.length hl
 cases xs with
 |nil=>
  simp only [go_sem]
  refine ⟨?_,?_⟩
  ·exact ⟨[],[4],_,rfl,rfl,by simp only [cZ,outs,gG,dB,List.map_nil,List.nil_append,List.not_mem_nil,not_false_eq_true,go_sem]<;>simp,by simp only [gY,outs,gG,dB,go_sem]<;>simp,by simp [ay,rv]⟩
  ·try simp only [List.take_zero,List.drop_zero,List.nil_append,List.length_nil,go_sem]
   exact Fin.yJ 32 _ rfl rfl rfl (by simp only [ay,rv,get,if_true,and_self])
 |cons x l=>
  simp only [List.length_cons] at hb hm
  simp only [List.take_zero,List.drop_zero,List.nil_append,List.length_nil,go_sem]
  exact ⟨⟨by omega,hm⟩,Fin.yJ 48 _ rfl rfl rfl (by simp only [ay,rv,get,if_true,and_self])⟩
end
end Go.Eng
