/-
  Part of a proof: lemmas and definitions of this work.
  No condition.
-/
import Derived.Test.YtmfankbjapjjiaaGreatA08
import Derived.Test.YtmfankbjapjjiaaGreatA49
import Derived.Test.YtmfankbjapjjiaaGreatA23
import Derived.Test.YtmfankbjapjjiaaGreatA05
import Derived.Test.YtmfankbjapjjiaaGreatA04
import Derived.Test.YtmfankbjapjjiaaGreatA17
set_option linter.all false
set_option maxRecDepth 100000
set_option maxHeartbeats 8000000
namespace Go.Eng
open Go Go.Proofs
attribute [local go_sem] aj.enc av.enc Task.enc Ev.enc bE.enc aW.enc cB.enc Dead.enc Dir.enc ak.enc Walk.enc aU.enc aI.enc bN.enc Setup.enc aS dX dY List.length_map Int.toNat_natCast
theorem apr (w:aF) (c:bH) {n m:Nat} (h:w.wf n m) (hl:w.bf) (hm:m+256<=1000000) (hr:c.refs.length<=1000):Fn Tryz.prog 49 [.agg w.enc,.agg c.enc] [] (.aG [.agg (w.nu c).1.enc,I (w.nu c).2]) [] []:=by
 generalize hR:w.nu c=R
 unfold aF.nu at hR
 simp only at hR
 by_cases k1:(c.kind==1)=true
 ·simp only [if_pos k1] at hR
  generalize hb:max 0 (min c.dN 255)=b at hR
  have b0:0<=b:=by omega
  have b1:b<=255:=by omega
  refine Fn.aT bS yh (by simp) ?_
  unfold s49 SC.mk' aF.enc bH.enc
  simp only [k1,hb,go_sem]
  refine go_loop (fun x:{x:Nat×aF // x.1<=b.toNat/\x.2.wf n (m+x.1)/\x.2.bf/\qm c.pick (b.toNat - x.1) x.2=R}=>⟨5000,[(2,.ptr 8 0),(3,.ptr 16 0),(4,.ptr 24 0),(6,I b),(7,I x.1.1)],[(8,.box x.1.2.enc),(16,.box c.enc),(24,.box [I 0,I 0,I 0,I 0,I 0,I 0,I 0,I 0,Nl,Nl,I 0,I 0,Nl,I 0,Nl,Nl,I 0,I 0,I 0,Nl,Nl,I 0,Nl])]⟩) (fun x=>b.toNat - x.1.1) ⟨(0,w),by omega,by simpa using h,hl,by simpa using hR⟩ (Wk.mk [(8,8),(16,16),(24,24)] [] rfl rfl (by simp only [cO,bK,au,rv,aF.enc,bH.enc,go_sem]<;>try simp) trivial (by simp only [d9,rv,au,go_sem]<;>try simp)) ?_
  rintro ⟨⟨j,v⟩,hj,hwf,nG,he⟩ B hB
  simp only at hj hwf nG he
  have hlt:=hwf.tl
  simp only [aF.enc,bH.enc,go_sem]
  by_cases e1:(j:Int)<b
  ·have e2:decide ((j:Int)<b)=true:=by simpa using e1
   have hw:=bQ (show j<=100000 by omega)
   obtain ⟨f,hf⟩:∃ f,b.toNat - j=f+1:=⟨b.toNat - j - 1,by omega⟩
   rw [hf] at he
   simp only [qm] at he
   have ho:=Xw v (by omega)
   have hol:v.opn.length<=v.tasks.length:=Wl _ _
   by_cases h0:v.opn.length=0
   ·rw [if_pos h0] at he
    subst he
    have h0':((v.opn.length:Int)==0)=true:=by simp [h0]
    simp only [e2,go_sem]
    have hJ:=ah h0' (ah bH.enc.eq_1 aF.enc.eq_1)
    exact aZ
   ·rw [if_neg h0] at he
    have h0':((v.opn.length:Int)==0)=false:=by simp [h0]
    have h0n:((v.opn.length:Int)≠0):=by omega
    have hp:=apm v ((max c.pick 0).tmod v.opn.length) hwf nG (by omega)
    have hpw:=fun e=>aF.Wn (k:=(max c.pick 0).tmod v.opn.length) hwf (by omega) e
    have hpl:=fun e=>aF.adO (k:=(max c.pick 0).tmod v.opn.length) hwf nG e
    generalize v.pick ((max c.pick 0).tmod v.opn.length)=y at he hp hpw hpl
    by_cases h3:y.2≠0
    ·rw [if_pos h3] at he
     subst he
     have h3':(y.2 !=0)=true:=by simpa using h3
     simp only [e2,go_sem]
     have hJ:=ah h0' (ah h0n (ah h3' (ah bH.enc.eq_1 aF.enc.eq_1)))
     exact aZ
    ·rw [if_neg h3] at he
     have h3':(y.2 !=0)=false:=by simpa using h3
     have hpw:=hpw (Decidable.not_not.1 h3)
     have hpl:=hpl (Decidable.not_not.1 h3)
     simp only [e2,go_sem]
     have hJ:=ah h0' (ah h0n (ah h3' hw))
     repeat' first
      |(first|refine sC ?_|refine sD ?_|refine sZ ?_|refine sY ?_|refine sF ?_);simp only [hJ,bH.enc,aF.enc,go_sem]
      |(first|refine bD (fun hq=> ?_) (fun hq=> ?_)|refine dS (fun hq=> ?_) (fun hq=> ?_)|refine dD (fun hq=> ?_) (fun hq=> ?_))<;>simp only [hq,hJ,bH.enc,aF.enc,go_sem]
      |refine sM ?_;simp only [ay,rv,au,get,hJ,bH.enc,aF.enc,go_sem]
      |refine bn ?_
      |fail
     all_goals clear hJ
     have he2:qm c.pick (b.toNat - (j+1)) y.1=R:=by rw [show b.toNat - (j+1)=f by omega];exact he
     exact hB _ ⟨(j+1,y.1),by simp only;omega,hpw,hpl,he2⟩ (by simp only;omega) (Wk.mk [(8,8),(16,16),(24,24)] [] rfl rfl (by simp only [cO,bK,au,rv,aF.enc,bH.enc,go_sem]<;>try simp) trivial (by simp only [d9,rv,au,go_sem]<;>try simp))
  ·have e2:decide ((j:Int)<b)=false:=by simpa using e1
   rw [show b.toNat - j=0 by omega] at he
   simp only [qm] at he
   subst he
   simp only [e2,go_sem]
   have hJ:=ah bH.enc.eq_1 aF.enc.eq_1
   exact aZ
 simp only [Bool.not_eq_true] at k1
 simp only [k1,Bool.false_eq_true,if_false] at hR
 by_cases k2:(c.kind==2)=true
 ·simp only [if_pos k2] at hR
  generalize hb:max 0 (min c.dN 255)=b at hR
  have ht:=ao3 w b (by have:=h.lg;omega)
  generalize w.tick b=y at hR ht
  by_cases h3:(y.2==0)=true
  ·rw [if_pos h3] at hR
   subst hR
   refine Fn.aT bS yh (by simp) ?_
   unfold s49 SC.mk' aF.enc bH.enc
   simp only [k1,k2,hb,go_sem]
   have hJ:=ah h3 aF.enc.eq_1
   exact aZ
  ·rw [if_neg h3] at hR
   simp only [Bool.not_eq_true] at h3
   subst hR
   refine Fn.aT bS yh (by simp) ?_
   unfold s49 SC.mk' aF.enc bH.enc
   simp only [k1,k2,hb,go_sem]
   have hJ:=ah h3 aF.enc.eq_1
   exact aZ
 simp only [Bool.not_eq_true] at k2
 simp only [k2,Bool.false_eq_true,if_false] at hR
 by_cases k3:(c.kind==3)=true
 ·simp only [if_pos k3] at hR
  have htl:=h.tl
  by_cases hrf:0<c.refs.length
  ·rw [if_pos hrf] at hR
   have N9:decide ((0:Int)<(c.refs.length:Int))=true:=by simp;omega
   have hin:=aeb w {c.inv with tokens:=c.refs.map fun r=>yM r.index r.variant r.raw w.handles} (by omega)
   generalize w.invoke {c.inv with tokens:=c.refs.map fun r=>yM r.index r.variant r.raw w.handles}=y at hR hin
   generalize hf:(fun r:dx=>yM r.index r.variant r.raw w.handles)=f at hin
   refine Fn.aT bS yh (by simp) ?_
   unfold s49 SC.mk' aF.enc bH.enc
   simp only [k1,k2,k3,N9,List.length_map,go_sem]
   refine go_loop (fun j:{j:Nat // j<=c.refs.length}=>⟨5000,[(2,.ptr 8 0),(3,.ptr 16 0),(4,.ptr 24 0),(13,.ptr 160 0),(14,I j.1)],[(8,.box w.enc),(16,.box c.enc),(24,.box [I 0,I 0,I 0,I 0,I 0,I 0,I 0,I 0,Nl,Nl,I 0,I 0,Nl,I 0,Nl,Nl,I 0,I 0,I 0,Nl,Nl,I 0,Nl]),(160,.box [I c.inv.kind,I c.inv.home,I c.inv.max_,I c.inv.bC,I c.inv.bA,I c.inv.to,.sl 1 (encS c.inv.bodies),.own 4000 1 0 j.1]),(4000,.row 46 1 (bW ((c.refs.take j.1).map f)))]⟩) (fun j=>c.refs.length - j.1) ⟨0,by omega⟩ (Wk.mk [(8,8),(16,16),(24,24),(160,160)] [4000] rfl rfl (by simp only [cO,bK,au,rv,aF.enc,bH.enc,go_sem]<;>try simp) (by simp only [gY,go_sem]<;>try simp [bW]) (by simp only [d9,rv,au,go_sem]<;>try simp)) ?_
   rintro ⟨j,hj⟩ B hB
   simp only [aF.enc,bH.enc,go_sem]
   by_cases e1:j<c.refs.length
   ·have e2:decide ((j:Int)<(c.refs.length:Int))=true:=by simp;omega
    have hw:=bQ (show j<=100000 by omega)
    have hx:nth (c.refs.map dx.enc) j=dx.enc (c.refs[j]?.getD dx.z):=bT dx.enc dx.z e1
    have ht:c.refs.take (j+1)=c.refs.take j++[c.refs[j]?.getD dx.z]:=DU dx.z e1
    generalize c.refs[j]?.getD dx.z=r at hx ht
    have hm1:j+1<=maxLen:=Nat.le_trans (show j+1<=2000 by omega) (by decide)
    have l1:(bW ((c.refs.take j).map f)).length=j:=by simp [bW];omega
    have t1:List.take j (bW ((c.refs.take j).map f))=bW ((c.refs.take j).map f):=bB (by omega)
    have e4:bW ((c.refs.take j).map f)++[[gP (yM r.index r.variant r.raw w.handles)]]=bW ((c.refs.take (j+1)).map f):=by rw [ht,<-hf];simp [bW]
    have hB':=hB
    clear hB
    simp only [e2,hx,hw,l1,t1,dx.enc,Int.toNat_natCast,dY,List.length_map,go_sem]
    repeat' first
     |(refine ul ?_;simp only [e2,hx,hw,l1,t1,e4,dx.enc,Int.toNat_natCast,List.length_map,go_sem])
     |(refine aQ (acs r.index r.variant r.raw w.handles) rfl rfl ?_;simp only [e2,hx,hw,l1,t1,e4,dx.enc,Int.toNat_natCast,List.length_map,go_sem])
     |(refine bX (acs r.index r.variant r.raw w.handles) rfl rfl ?_;simp only [e2,hx,hw,l1,t1,e4,dx.enc,Int.toNat_natCast,List.length_map,go_sem])
     |refine bn ?_
     |fail
    exact hB' _ ⟨j+1,by omega⟩ (by simp only;omega) (Wk.mk [(8,8),(16,16),(24,24),(160,160),(4000,5128)] [] rfl rfl (by simp only [cO,bK,au,rv,aF.enc,bH.enc,go_sem]<;>try simp) trivial (by simp only [d9,rv,au,go_sem]<;>try simp))
   ·have e2:decide ((j:Int)<(c.refs.length:Int))=false:=by simp;omega
    have hjl:j=c.refs.length:=by omega
    have tt:c.refs.take j=c.refs:=bB (by omega)
    have l1:(bW (c.refs.map f)).length=j:=by simp [bW];omega
    have t1:List.take j (bW (c.refs.map f))=bW (c.refs.map f):=bB (by omega)
    clear hB
    by_cases h3:(y.2.2==0)=true
    ·rw [if_pos h3] at hR
     subst hR
     simp only [e2,tt,go_sem]
     have hJ:=ah h3 (ah l1 (ah t1 (ah aF.enc.eq_1 bJ.enc.eq_1)))
     exact aZ
    ·rw [if_neg h3] at hR
     simp only [Bool.not_eq_true] at h3
     subst hR
     simp only [e2,tt,go_sem]
     have hJ:=ah h3 (ah l1 (ah t1 (ah aF.enc.eq_1 bJ.enc.eq_1)))
     exact aZ
  ·rw [if_neg hrf] at hR
   have N9:decide ((0:Int)<(c.refs.length:Int))=false:=decide_eq_false (by omega)
   have hin:=aeb w c.inv (by omega)
   generalize w.invoke c.inv=y at hR hin
   by_cases h3:(y.2.2==0)=true
   ·rw [if_pos h3] at hR
    subst hR
    refine Fn.aT bS yh (by simp) ?_
    unfold s49 SC.mk' aF.enc bH.enc
    simp only [k1,k2,k3,N9,List.length_map,go_sem]
    have hJ:=ah h3 (ah aF.enc.eq_1 bJ.enc.eq_1)
    exact aZ
   ·rw [if_neg h3] at hR
    simp only [Bool.not_eq_true] at h3
    subst hR
    refine Fn.aT bS yh (by simp) ?_
    unfold s49 SC.mk' aF.enc bH.enc
    simp only [k1,k2,k3,N9,List.length_map,go_sem]
    have hJ:=ah h3 (ah aF.enc.eq_1 bJ.enc.eq_1)
    exact aZ
 ·rw [if_neg k3] at hR
  simp only [Bool.not_eq_true] at k3
  subst hR
  refine Fn.aT bS yh (by simp) ?_
  unfold s49 SC.mk' aF.enc bH.enc
  simp only [k1,k2,k3,go_sem]
  have hJ:=aF.enc.eq_1
  exact aZ
theorem aps (u:Setup) (l:List bH) (hl:l.length<=400) (hr:∀ c ∈ l,c.refs.length<=1000):Fn Tryz.prog 17 [.agg u.enc,.sl 12 (l.map bH.enc)] [] (.aG [.agg (aF.run u l).1.enc,I (aF.run u l).2]) [] []:=by
 generalize hR:aF.run u l=R
 unfold aF.run at hR
 have hn:=ad8 u
 have hok:=fun e=>aF.apq (u:=u) e
 generalize aF.new u=x at hR hn hok
 by_cases e:x.2≠0
 ·rw [if_pos e] at hR
  subst hR
  have e':(x.2 !=0)=true:=by simpa using e
  refine Fn.aT bS aaw (by simp) ?_
  unfold Mf SC.mk' Setup.enc
  simp only [go_sem]
  have hJ:=ah e' aF.enc.eq_1
  exact aZ
 ·rw [if_neg e,if_neg (show ¬ (400:Int)<l.length by omega)] at hR
  have e':(x.2 !=0)=false:=by simpa using e
  have e4:decide ((400:Int)<(l.length:Int))=false:=decide_eq_false (by omega)
  obtain ⟨n,hwf,nG⟩:=hok (Decidable.not_not.1 e)
  refine Fn.aT bS aaw (by simp) ?_
  unfold Mf SC.mk' Setup.enc
  simp only [go_sem]
  have hJ:=ah e' e4
  repeat' first
   |(first|refine sC ?_|refine sD ?_|refine sZ ?_|refine sY ?_|refine sF ?_);simp only [hJ,aF.enc,List.length_map,go_sem]
   |(first|refine bD (fun hq=> ?_) (fun hq=> ?_)|refine dS (fun hq=> ?_) (fun hq=> ?_)|refine dD (fun hq=> ?_) (fun hq=> ?_))<;>simp only [hq,hJ,aF.enc,List.length_map,go_sem]
   |refine sM ?_;simp only [ay,rv,au,get,hJ,aF.enc,List.length_map,go_sem]
   |refine bn ?_
   |fail
  all_goals clear hJ
  refine go_loop (fun y:{y:Nat×aF // y.1<=l.length/\y.2.wf n (256*y.1)/\y.2.bf/\Ka (l.drop y.1) y.2=R}=>⟨5000,[(1,.sl 12 (l.map bH.enc)),(2,.ptr 8 0),(4,.ptr 16 0),(6,.ptr 72 0),(8,I y.1.1)],[(8,.box u.enc),(16,.box [I 0,I 0,I 0,I 0,I 0,I 0,I 0,I 0,Nl,Nl,I 0,I 0,Nl,I 0,Nl,Nl,I 0,I 0,I 0,Nl,Nl,I 0,Nl]),(72,.box y.1.2.enc)]⟩) (fun y=>l.length - y.1.1) ⟨(0,x.1),Nat.zero_le _,by simpa using hwf,nG,by simpa using hR⟩ (Wk.mk [(8,8),(16,16),(72,72)] [] rfl rfl (by simp only [cO,bK,au,rv,aF.enc,Setup.enc,go_sem]<;>try simp) trivial (by simp only [d9,rv,au,go_sem]<;>try simp)) ?_
  rintro ⟨⟨j,v⟩,hj,hwf,nG,he⟩ B hB
  simp only at hj hwf nG he
  simp only [aF.enc,Setup.enc,go_sem]
  by_cases e1:j<l.length
  ·have e2:decide ((j:Int)<(l.length:Int))=true:=by simp;omega
   have hw:=bQ (show j<=100000 by omega)
   rw [eD bH.z e1] at he
   simp only [Ka] at he
   have hx:nth (l.map bH.enc) j=bH.enc (l[j]?.getD bH.z):=bT bH.enc bH.z e1
   have hrc:(l[j]?.getD bH.z).refs.length<=1000:=by
    rw [List.getElem?_eq_getElem e1];exact hr _ (List.getElem_mem _)
   generalize l[j]?.getD bH.z=c at he hx hrc
   have hd:=apr v c hwf nG (by omega) hrc
   have hdw:=fun e=>aF.al7 (c:=c) hwf (by omega) e
   have hdl:=fun e=>aF.ao5 (c:=c) hwf nG (by omega) e
   generalize v.nu c=y at he hd hdw hdl
   by_cases h3:y.2≠0
   ·rw [if_pos h3] at he
    subst he
    have h3':(y.2 !=0)=true:=by simpa using h3
    simp only [e2,hx,bH.enc,Int.toNat_natCast,List.length_map,go_sem]
    have hJ:=ah h3' (ah hx (ah bH.enc.eq_1 aF.enc.eq_1))
    exact aZ
   ·rw [if_neg h3] at he
    have h3':(y.2 !=0)=false:=by simpa using h3
    have hdw:=hdw (Decidable.not_not.1 h3)
    have hdl:=hdl (Decidable.not_not.1 h3)
    simp only [e2,hx,bH.enc,Int.toNat_natCast,List.length_map,go_sem]
    have hJ:=ah h3' (ah hx hw)
    repeat' first
     |(first|refine sC ?_|refine sD ?_|refine sZ ?_|refine sY ?_|refine sF ?_);simp only [hJ,bH.enc,aF.enc,Int.toNat_natCast,go_sem]
     |(first|refine bD (fun hq=> ?_) (fun hq=> ?_)|refine dS (fun hq=> ?_) (fun hq=> ?_)|refine dD (fun hq=> ?_) (fun hq=> ?_))<;>simp only [hq,hJ,bH.enc,aF.enc,Int.toNat_natCast,go_sem]
     |refine sM ?_;simp only [ay,rv,au,get,hJ,bH.enc,aF.enc,Int.toNat_natCast,go_sem]
     |refine bn ?_
     |fail
    all_goals clear hJ
    exact hB _ ⟨(j+1,y.1),e1,by rw [Nat.mul_add];exact hdw,hdl,he⟩ (by simp only;omega) (Wk.mk [(8,8),(16,16),(72,72)] [] rfl rfl (by simp only [cO,bK,au,rv,aF.enc,Setup.enc,go_sem]<;>try simp) trivial (by simp only [d9,rv,au,go_sem]<;>try simp))
  ·have e2:decide ((j:Int)<(l.length:Int))=false:=by simp;omega
   rw [eO (by omega)] at he
   simp only [Ka] at he
   subst he
   simp only [e2,List.length_map,go_sem]
   have hJ:=ah bH.enc.eq_1 aF.enc.eq_1
   exact aZ
end Go.Eng
namespace Go.Eng
open Go Go.Proofs
theorem aef (l:List Int):∀ (i a:Nat) (acc:List dx),(iN l i a acc).1.length=acc.length+i
 |0,a,acc=>rfl
 |i+1,a,acc=>by simp only [iN,aef l i,List.length_append,List.length_cons,List.length_nil];omega
theorem apt (c:bH):(mF c).refs=c.refs:=by unfold mF;split<;>rfl
theorem apu (l:List Int) (a:Nat):(rz l a).1.refs.length<=1000:=by
 unfold rz
 simp only
 repeat' split
 all_goals simp only [apt,fU,aef,List.length_nil]
 all_goals
  have h1:=wH l (nN l (eF l (nN l (nN l a 20) 4) 3 5) 4) (lo:=1) (hi:=2) (by omega)
  have h2:=wH l (eF l (nN l (nN l a 20) 4) 3 5) (lo:=1) (hi:=2) (by omega)
  omega
theorem aeg (l:List Int):∀ (n a:Nat) (acc:List bH),(∀ c ∈ acc,c.refs.length<=1000)->(oU l n a acc).1.length<=acc.length+n/\∀ c ∈ (oU l n a acc).1,c.refs.length<=1000
 |0,a,acc,h=>⟨Nat.le_refl _,h⟩
 |n+1,a,acc,h=>by
  simp only [oU]
  split
  ·have:=aeg l n (rz l a).2 (acc++[(rz l a).1]) (fun c hc=>by
    rcases List.mem_append.1 hc with hc|hc
    ·exact h c hc
    ·rw [List.mem_singleton.1 hc];exact apu l a)
   refine ⟨?_,this.2⟩
   have h1:=this.1
   simp only [List.length_append,List.length_cons,List.length_nil] at h1
   omega
  ·exact ⟨by simp only;omega,h⟩
theorem Oa (l:List Int) (a n:Nat) (hl:l.length<=4000) (hn:n<=400):Fn Tryz.prog 8 [.ptr 0 0,I n] [dO l a] (.agg (lM l n a).1.enc) [dO l (lM l n a).2] []:=by
 generalize hR:lM l n a=R
 unfold lM at hR
 simp only at hR
 have hs:=amX l a hl
 generalize DR l a=u at hR hs
 have hc:=amZ l u.2 n hl (by omega)
 have hk:=aeg l n u.2 [] (by simp)
 generalize oU l n u.2 []=c at hR hc hk
 have hr:=aps u.1 c.1 (by have:=hk.1;simp at this;omega) hk.2
 generalize aF.run u.1 c.1=x at hR hr
 have hz:=ad8 ⟨1,1,1,1,1,0,1,0⟩
 generalize aF.new ⟨1,1,1,1,1,0,1,0⟩=z at hR hz
 subst hR
 refine Fn.aO ok8 (by simp) ?_
 unfold s8 SC.mk'
 simp only [go_sem]
 refine eB (b:=0) hs ⟨rfl,trivial⟩ rfl rfl rfl rfl ?_
 simp only [Setup.enc,go_sem]
 refine eB (b:=0) hc ⟨rfl,⟨rfl,rfl⟩,trivial⟩ rfl rfl rfl rfl ?_
 simp only [Setup.enc,go_sem]
 refine aQ hr rfl rfl ?_
 simp only [aF.enc,go_sem]
 by_cases e:x.2≠0
 ·have e':(x.2 !=0)=true:=by simpa using e
  simp only [e',go_sem]
  refine aQ hz rfl rfl ?_
  simp only [aF.enc,go_sem]
  exact Fin.kV _ rfl rfl rfl (by simp [au,rv]) (by simp [ay,au,rv,get,e])
 ·have e':(x.2 !=0)=false:=by simpa using e
  simp only [e',go_sem]
  exact Fin.kV _ rfl rfl rfl (by simp [au,rv]) (by simp [ay,au,rv,get,Decidable.not_not.1 e])
end Go.Eng
namespace Go.Eng
open Go
theorem fP.fin {P:Program} {f:FuncId} {xs:List AV} {bs:List (List AV)} {gs es0:List Ob} {r0:AV} {Xx:List (List AV)} (hF:fP P f xs bs gs r0 Xx es0) {t:List (Nat×AV)} {res:List iE} {vs:List AV} (hv:iZ t (outs Xx es0) res=some vs) (h1:ay vs=r0)
 {r:AV} {bs':List (List AV)} {es:List Ob} (hE:Fin res r bs' es t (outs Xx es0)):fP P f xs bs gs r bs' es:=by
 obtain ⟨S,N,ys,e1,e2,e3,e4,e5⟩:=hE
 rw [hv] at e1
 cases e1
 rw [h1] at e5
 refine ⟨hF.1,fun C ρ U w vals hr hU hw=>(hF.2 C ρ U w vals hr hU hw).mono fun e w' he=> ?_⟩
 obtain ⟨v,ρ',U',rfl,g1,g2⟩:=he
 exact ⟨v,_,_,rfl,vJ (S:=S) (N:=N) g1 e2 e3 e4,kS (S:=S) (N:=N) g1 g2 _ e5⟩
def zw (a b:RunT):RunT:=fun f xs bs gs=>match a f xs bs gs with
 |some r=>some r
 |none=>b f xs bs gs
theorem Ku {P:Program} {a b:RunT} (ha:gF P a) (hb:gF P b):gF P (zw a b):=by
 intro f xs bs gs vs h e
 unfold zw at e
 split at e
 ·rename_i r hr
  cases e
  exact ha _ _ _ _ _ _ hr
 ·exact hb _ _ _ _ _ _ e
def xB (L:List (Nat×Nat×Nat)):RunT:=fun f xs bs gs=>match xs,bs,gs with
 |[.sl sz ys],[],[]=>match get L f with
  |some (e,s)=>if s=sz/\ys.length<=10000 then some ([.own 4 sz 0 ys.length],[(4,.row e sz ys)]) else none
  |none=>none
 |_,_,_=>none
theorem D8 {P:Program} {L:List (Nat×Nat×Nat)} (hL:∀ p ∈ L,∀ xs:List (List AV),xs.length<=10000->fP P p.1 [.sl p.2.2 xs] [] [] (.own 4 p.2.2 0 xs.length) [] [.row p.2.1 p.2.2 xs]):gF P (xB L):=by
 intro f xs bs gs vs h e
 unfold xB at e
 split at e
 ·rename_i sz ys
  split at e
  ·rename_i e0 s hg
   split at e
   ·rename_i hc
    obtain ⟨rfl,hl⟩:=hc
    cases e
    exact ⟨[(0,.own 4 s 0 ys.length)],[.tmp 0],rfl,fun r bs' es hE=>(hL _ (get_mem hg) ys hl).fin (t:=[(0,.own 4 s 0 ys.length)]) (res:=[.tmp 0]) rfl rfl hE⟩
   ·cases e
  ·cases e
 ·cases e
structure oW (P:Program) where
 f:FuncId
 F:lG
 ok:aA P f F.sc F.res F.nt
def oW.mk' {P:Program} {f:FuncId} {sc:eG} {res:List iE} {nt:Nat} (h:aA P f sc res nt):oW P:=⟨f,⟨sc,res,nt⟩,h⟩
noncomputable def D9 {P:Program} (l:List (oW P)) (f:FuncId):Option lG:= @List.rec (oW P) (fun _=>Option lG) none (fun p _ ih=>cond (Nat.beq p.f f) (some p.F) ih) l
theorem Kv {P:Program}:∀ (l:List (oW P)),qL P (D9 l)
 |[],f,F,h=>by cases h
 |p::l,f,F,h=>by
  have h:cond (Nat.beq p.f f) (some p.F) (D9 l f)=some F:=h
  cases hb:Nat.beq p.f f with
  |true=>
   rw [hb] at h
   cases h
   rw [<-Nat.eq_of_beq_eq_true hb]
   exact p.ok
  |false=>
   rw [hb] at h
   exact Kv l f F h
def Xy:Value->Value->Bool
 | .int k a,.int k' b=>decide (k=k')&&decide (a=b)
 | .bool a,.bool b=>a==b
 | .slice none 0 0,.slice none 0 0=>true
 | .string a,.string b=>a.data.toList==b.data.toList
 |_,_=>false
theorem apv:∀ {x y:Value},Xy x y=true->x=y:=by
 intro x y h
 unfold Xy at h
 split at h
 ·simp only [Bool.and_eq_true,decide_eq_true_eq] at h;rw [h.1,h.2]
 ·rw [eq_of_beq h]
 ·rfl
 ·rename_i a b
  obtain ⟨⟨a⟩⟩:=a
  obtain ⟨⟨b⟩⟩:=b
  rw [show a=b from eq_of_beq h]
 ·cases h
mutual
def oZ:AV->AV->Bool
 | .v x,.v y=>Xy x y
 | .agg xs,.agg ys=>tH xs ys
 | .sl n xs,.sl m ys=>bif Nat.beq n m then Ea xs ys else false
 |_,_=>false
def tH:List AV->List AV->Bool
 |[],[]=>true
 |x::xs,y::ys=>bif oZ x y then tH xs ys else false
 |_,_=>false
def Ea:List (List AV)->List (List AV)->Bool
 |[],[]=>true
 |x::xs,y::ys=>bif tH x y then Ea xs ys else false
 |_,_=>false
end
mutual
theorem apw:∀ (x y:AV),oZ x y=true->x=y
 | .v x,y,h=>by
  cases y<;>simp only [oZ] at h<;>first|(rw [apv h])|cases h
 | .agg xs,y,h=>by
  cases y<;>simp only [oZ] at h<;>first|(rw [Oc _ _ h])|cases h
 | .sl n xs,y,h=>by
  cases y<;>simp only [oZ] at h<;>try (cases h;done)
  rename_i m ys
  cases hb:Nat.beq n m with
  |false=>rw [hb] at h;cases h
  |true=>rw [hb] at h;rw [Nat.eq_of_beq_eq_true hb,aeh _ _ h]
 | .aG _,y,h=>by cases y<;>simp only [oZ] at h<;>cases h
 | .own _ _ _ _,y,h=>by cases y<;>simp only [oZ] at h<;>cases h
 | .ptr _ _,y,h=>by cases y<;>simp only [oZ] at h<;>cases h
 | .rp _ _ _ _,y,h=>by cases y<;>simp only [oZ] at h<;>cases h
 | .dI _ _,y,h=>by cases y<;>simp only [oZ] at h<;>cases h
 | .mp _,y,h=>by cases y<;>simp only [oZ] at h<;>cases h
 | .fn _ _,y,h=>by cases y<;>simp only [oZ] at h<;>cases h
theorem Oc:∀ (xs ys:List AV),tH xs ys=true->xs=ys
 |[],[],_=>rfl
 |x::xs,y::ys,h=>by
  simp only [tH] at h
  cases hb:oZ x y with
  |false=>rw [hb] at h;cases h
  |true=>rw [hb] at h;rw [apw _ _ hb,Oc _ _ h]
 |[],_::_,h=>by simp [tH] at h
 |_::_,[],h=>by simp [tH] at h
theorem aeh:∀ (xs ys:List (List AV)),Ea xs ys=true->xs=ys
 |[],[],_=>rfl
 |x::xs,y::ys,h=>by
  simp only [Ea] at h
  cases hb:tH x y with
  |false=>rw [hb] at h;cases h
  |true=>rw [hb] at h;rw [Oc _ _ hb,aeh _ _ h]
 |[],_::_,h=>by simp [Ea] at h
 |_::_,[],h=>by simp [Ea] at h
end
def Eb (f0:Nat) (Kw:List AV) (r:AV):RunT:=fun f xs bs gs=>bif Nat.beq f f0 then (match bs,gs with
 |[],[]=>bif tH xs Kw then some ([r],[]) else none
 |_,_=>none) else none
theorem Od {P:Program} {f0:Nat} {Kw:List AV} {r:AV} (hF:fP P f0 Kw [] [] r [] []):gF P (Eb f0 Kw r):=by
 intro f xs bs gs vs h e
 unfold Eb at e
 cases hf:Nat.beq f f0 with
 |false=>rw [hf] at e;cases e
 |true=>
  rw [hf] at e
  simp only [cond_true] at e
  have hf:=Nat.eq_of_beq_eq_true hf
  subst hf
  split at e
  ·cases hx:tH xs Kw with
   |false=>rw [hx] at e;cases e
   |true=>
    rw [hx] at e
    have hx:=Oc _ _ hx
    subst hx
    cases e
    exact ⟨[(0,r)],[.tmp 0],rfl,fun r' bs' es hE=>hF.fin (t:=[(0,r)]) (res:=[.tmp 0]) rfl rfl hE⟩
  ·cases e
theorem Oe {P:Program} {hk:RunT} {code:FuncId->Option lG} (hh:gF P hk) (hc:qL P code) {k:Nat} {f:FuncId} {xs:List AV} {r:AV} (e:qM hk code k f xs=some r):fP P f xs [] [] r [] []:=by
 simp only [qM] at e
 split at e
 ·rename_i vs h hr
  split at e
  ·rename_i r' b es hP
   cases e
   obtain ⟨t,res,hv,hrun⟩:=Me hh hc (P7 hh hc k) _ _ _ _ _ _ hr
   obtain ⟨hF,hl,_⟩:=Dh hv hP
   have hb0:b=[]:=List.length_eq_zero_iff.1 hl
   subst hb0
   have he0:es=[]:=P9 hP
   subst he0
   exact hrun _ _ _ hF
  ·cases e
 ·cases e
section
variable {P:Program} {C:Ctx} {hk:RunT} {code:FuncId->Option lG}
noncomputable def o6 (hk:RunT) (code:FuncId->Option lG) (k:Nat):eG->St->Option (Exit×St)
 | .seq a b,s=>match exec hk code k a s with
  |some (.normal,s')=>match Dj (LU s'.h (s'.h.map Prod.fst)) s'.t s'.h with
   |some (t,h)=>o6 hk code k b ⟨s'.n,t,h⟩
   |none=>o6 hk code k b s'
  |r=>r
 | .skip,s=>exec hk code k .skip s
 | .region o d,s=>exec hk code k (.region o d) s
 | .cond c x y,s=>exec hk code k (.cond c x y) s
 | .block i c,s=>exec hk code k (.block i c) s
 | .loop c,s=>exec hk code k (.loop c) s
 | .exit i,s=>exec hk code k (.exit i) s
 | .ret,s=>exec hk code k .ret s
theorem apx (hm:P.follows .mixedOrders=true) (hh:gF P hk) (hc:qL P code) {k:Nat}:∀ (sc:eG) (c:Code) (s:St) (e:Exit) (s':St),o6 hk code k sc s=some (e,s')->fM P c=some sc->iV C.nt sc=true->
 ∀ (K:Exit->Act->World->Prop) (a:Act) (w:World),At C s a w->(∀ a' w',At C s' a' w'->K e a' w')->c.wp P K a w:=by
 have base:∀ (sc:eG) (c:Code) (s:St) (e:Exit) (s':St),exec hk code k sc s=some (e,s')->fM P c=some sc->iV C.nt sc=true->
  ∀ (K:Exit->Act->World->Prop) (a:Act) (w:World),At C s a w->(∀ a' w',At C s' a' w'->K e a' w')->c.wp P K a w:=fun sc c s e s' h hs hok K a w hA hK=>
  vH hm c sc hs hok (fun e1 s1=>e1=e/\s1=s') K s a w hA (P7 hh hc k sc s e s' h _ ⟨rfl,rfl⟩) fun e1 s1 a' w' hA' hq=>by
   obtain ⟨rfl,rfl⟩:=hq
   exact hK _ _ hA'
 intro sc
 induction sc with
 |seq x y _ ihy=>
  intro c s e s' h hs hok K a w hA hK
  cases c with
  |seq c1 c2=>
   simp only [fM] at hs
   split at hs
   ·rename_i x2 hx
    split at hs
    ·rename_i y' hy
     cases hs
     simp only [iV,Bool.and_eq_true] at hok
     simp only [o6] at h
     split at h
     ·rename_i s1 h1
      refine wp_seq (base _ _ _ _ _ h1 hx hok.1 _ a w hA fun a' w' hA'=> ?_)
      split at h
      ·rename_i t h2 hf
       exact ihy _ _ _ _ h hy hok.2 K a' w' ((ZI (n:=s1.n) hf).at hA') hK
      ·exact ihy _ _ _ _ h hy hok.2 K a' w' hA' hK
     ·rename_i hne
      refine wp_seq (base _ _ _ _ _ h hx hok.1 _ a w hA fun a' w' hA'=> ?_)
      cases e with
      |normal=>exact absurd h (hne _)
      |_=>exact hK _ _ hA'
    ·cases hs
   ·cases hs
  |_=>simp only [fM] at hs<;>(try split at hs)<;>(try split at hs)<;>cases hs
 |skip=>intro c s e s' h;exact base _ _ _ _ _ (by simpa only [o6] using h)
 |region o d=>intro c s e s' h;exact base _ _ _ _ _ (by simpa only [o6] using h)
 |cond c x y _ _=>intro c s e s' h;exact base _ _ _ _ _ (by simpa only [o6] using h)
 |block i c _=>intro c s e s' h;exact base _ _ _ _ _ (by simpa only [o6] using h)
 |loop c _=>intro c s e s' h;exact base _ _ _ _ _ (by simpa only [o6] using h)
 |exit i=>intro c s e s' h;exact base _ _ _ _ _ (by simpa only [o6] using h)
 |ret=>intro c s e s' h;exact base _ _ _ _ _ (by simpa only [o6] using h)
noncomputable def Xz (hk:RunT) (code:FuncId->Option lG) (k:Nat) (f:FuncId):Option AV:=match code f with
 |some F=>match o6 hk code k F.sc ⟨8,[],[]⟩ with
  |some (.normal,s)=>match iZ s.t s.h F.res with
   |some vs=>match mU 0 [] vs s.h with
    |some (r,_,_)=>some r
    |none=>none
   |none=>none
  |some (.ret,s)=>match iZ s.t s.h F.res with
   |some vs=>match mU 0 [] vs s.h with
    |some (r,_,_)=>some r
    |none=>none
   |none=>none
  |_=>none
 |none=>none
theorem apy (hh:gF P hk) (hc:qL P code) {k:Nat} {f:FuncId} {r:AV} (e:Xz hk code k f=some r):Fn P f [] [] r [] []:=by
 unfold Xz at e
 split at e
 ·rename_i F hF
  obtain ⟨⟨fn,c,hf,hnm,hb,hs,hres,hr4,hnt⟩,hoc,hm⟩:=hc f F hF
  have key:∀ (e0:Exit) (s:St) (vs:List AV) (b:List (List AV)) (es:List Ob),(e0= .normal\/e0= .ret)->o6 hk code k F.sc ⟨8,[],[]⟩=some (e0,s)->iZ s.t s.h F.res=some vs->mU 0 [] vs s.h=some (r,b,es)->Fn P f [] [] r [] []:=by
   intro e0 s vs b es he0 hp hv hfin
   obtain ⟨xZ,hl,_⟩:=Dh hv hfin
   have hb0:b=[]:=List.length_eq_zero_iff.1 hl
   subst hb0
   have apz:es=[]:=P9 hfin
   subst apz
   refine ⟨⟨fn,hf,hnm,by rw [hb];rfl⟩,fun C ρ U w vals hr hU hv0=> ?_⟩
   let C1:Ctx:={C with nt:=F.nt}
   have hr1:HR C1 ρ U (gq 0 []) w:=⟨hr.hp,hr.hd,hr.inj,hr.os,hr.tape,hr.output,hr.size,hr.old,hr.jw,hr.dJ,hr.fix⟩
   refine calls_of_wp hf hb (apx (C:=C1) hm hh hc F.sc c ⟨8,[],[]⟩ e0 s hp hs hoc _ _ w ⟨ρ,U,⟨hr1,fun k x hk=>by simp [get] at hk,rfl,?_⟩,fun b hb=>by have:=hU b hb;simp only;omega⟩ fun a w' hA=> ?_)
   ·have:=hv0.1
    simp only [Array.size_append,Array.size_replicate]
    show _=F.nt
    rw [<-hnt]
    simp at this
    omega
   ·have fin:a.defers=[]/\∃ v,(results fn a.tmps).run P w'= .ok v w'/\∃ v_1 ρ' U',Ending.returned v=Ending.returned v_1/\HR C ρ' U' (outs [] []) w'/\VR w' (aP C ρ' w') ρ' U' r v_1:=by
     obtain ⟨S,N,ys,h1,h2,h3,h4,h5⟩:=xZ
     obtain ⟨ρ1,U1,hS,_⟩:=hA
     obtain ⟨vs,h6,h7,h8,h9⟩:=CS (P:=P) hS.hr hS.tm fn.results.toList F.res ys hres h1
     refine ⟨hS.defers,_,Le a.tmps w' rfl h6 hr4 h8,_,dK ρ1 S N,jy S N,rfl,?_,?_⟩
     ·have:=vJ hS.hr h2 h3 h4
      exact ⟨this.hp,this.hd,this.inj,this.os,this.tape,this.output,this.size,this.old,this.jw,this.dJ,this.fix⟩
     ·exact kS hS.hr (Lf (by omega) h9) r h5
    rcases he0 with rfl|rfl
    ·exact fin
    ·exact fin
  split at e
  ·rename_i s hp
   split at e
   ·rename_i vs hv
    split at e
    ·rename_i r' b es hfin
     cases e
     exact key _ _ _ _ _ (.inl rfl) hp hv hfin
    ·cases e
   ·cases e
  ·rename_i s hp
   split at e
   ·rename_i vs hv
    split at e
    ·rename_i r' b es hfin
     cases e
     exact key _ _ _ _ _ (.inr rfl) hp hv hfin
    ·cases e
   ·cases e
  ·cases e
 ·cases e
end
end Go.Eng
namespace Go.Eng
open Go Go.Proofs
section
variable {P:Program} {f g nt sz:Nat} {α:Type} (enc:α->List AV) (z:α) (hlen:∀ x,(enc x).length=sz)
include z hlen
end
end Go.Eng
namespace Go.Eng
open Go Go.Proofs
abbrev aei (e sz dN:Nat) (zs:List Value):eG:=(.seq (.region [⟨(some 2),.jH (.const (.slice none 0 0)),none,[]⟩] false) (.seq (.seq (.region [⟨(some 3),.jH (.tmp 0),none,[]⟩,⟨(some 4),.lS false (.tmp 3),none,[]⟩] false) (.cond (.tmp 4) (.seq (.region [⟨(some 2),.jH (.const (.slice none 0 0)),none,[]⟩] false) .ret) .skip)) (.seq (.region [⟨(some 5),.lD e sz zs 0 [],none,[]⟩,⟨(some 6),.jH (.tmp 0),none,[]⟩,⟨(some 7),.app e sz dN zs (.tmp 5) (.tmp 6),none,[]⟩,⟨(some 2),.jH (.tmp 7),none,[]⟩] false) .ret)))
section
variable {P:Program} {f f0 g nt sz e dN:Nat} {zs:List Value}
end
end Go.Eng
namespace Go.Eng
open Go Go.Proofs
section
variable {P:Program} {f nt sz e dN:Nat} {zs:List Value}
theorem iJ (hok:aA P f (aei e sz dN zs) [.tmp 2] nt) (hnt:1<=nt) (xs:List (List AV)) (hl:xs.length<=10000) (hby:dN<=10000):fP P f [.sl sz xs] [] [] (.own 4 sz 0 xs.length) [] [.row e sz xs]:=by
 refine fP.aO hok (by simpa using hnt) ?_
 unfold aei
 have mx:∀ j:Nat,j<=10000->j<=maxLen:=fun j h=>Nat.le_trans h (by decide)
 have hb:xs.length*dN<=140737488355328:=Nat.le_trans (Nat.mul_le_mul hl hby) (by decide)
 have hm:=mx xs.length hl
 cases xs with
 |nil=>
  simp only [go_sem]
  refine ⟨?_,?_⟩
  ·exact ⟨[],[4],_,rfl,rfl,by simp only [cO,outs,gq,dB,List.map_nil,List.nil_append,List.not_mem_nil,not_false_eq_true,go_sem]<;>simp,by simp only [gY,outs,gq,dB,go_sem]<;>simp,by simp [ay,rv]⟩
  ·try simp only [List.take_zero,List.drop_zero,List.nil_append,List.length_nil,go_sem]
   exact Fin.yF 32 _ rfl rfl rfl (by simp only [ay,rv,get,if_true,and_self])
 |cons x l=>
  simp only [List.length_cons] at hb hm
  simp only [List.take_zero,List.drop_zero,List.nil_append,List.length_nil,go_sem]
  exact ⟨⟨by omega,hm⟩,Fin.yF 48 _ rfl rfl rfl (by simp only [ay,rv,get,if_true,and_self])⟩
end
end Go.Eng
