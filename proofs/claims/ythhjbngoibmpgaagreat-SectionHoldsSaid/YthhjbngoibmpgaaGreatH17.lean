/-
  Part of a proof: lemmas and definitions of this work.
  No condition.
-/
import Derived.Test.YthhjbngoibmpgaaGreatH08
import Derived.Test.YthhjbngoibmpgaaGreatH16
import Derived.Test.YthhjbngoibmpgaaGreatH15
import Derived.Test.YthhjbngoibmpgaaGreatH14
import Derived.Test.YthhjbngoibmpgaaGreatH11
set_option linter.all false
set_option maxRecDepth 100000
set_option maxHeartbeats 8000000
namespace Go.Eng
open Go Go.Proofs
attribute [local go_sem] List.length_map
@[simp] theorem fF:encI []=[]:=rfl
theorem yN {a:ai} {i:Int} (h:a.slot i=true):0<=i/\i.toNat<a.slots.length/\i<a.slots.length:=by
 simp [ai.slot] at h;omega
theorem pO {l:List Slot} {i:Nat} (h:i<l.length):nth (l.map Slot.enc) i=Slot.enc (dX l i):=fJ Slot.enc Slot.z h
theorem yO {l:List aG} {i:Nat} (h:i<l.length):nth (l.map aG.enc) i=aG.enc (fC l i):=fJ aG.enc aG.z h
theorem abZ (a:ai) (c:Int) (h0:0<=c) (h1:c<=a.slots.length):Fn Tryz.prog 13 [.agg a.enc,I c] [] (I (a.owner c)) [] []:=by
 generalize hR:a.owner c=R
 unfold ai.owner at hR
 refine Fn.aB Y9 (by simp) ?_
 unfold s13 SC.mk' ai.enc
 simp only [go_sem]
 by_cases h2:(c==(a.slots.length:Int))=true
 ·rw [if_pos h2] at hR
  simp only [h2,List.length_map,go_sem]
  exact Fin.bA _ rfl rfl (by rw [<-hR];rfl)
 ·rw [if_neg h2] at hR
  simp only [Bool.not_eq_true] at h2
  have h3:c≠(a.slots.length:Int):=by simpa using h2
  simp only [h2,pO (show c.toNat<a.slots.length by omega),Slot.enc,List.length_map,go_sem]
  repeat (refine bn ?_)
  exact Fin.bA _ rfl rfl (by rw [<-hR];rfl)
end Go.Eng
namespace Go.Eng
open Go Go.Proofs
attribute [local go_sem] aY
theorem jL {l:List Int} {i:Nat} (h:i<l.length):nth (encI l) i=[I (gI l i)]:=fJ (fun z=>[I z]) 0 h
theorem ab0 (l:List Int) (p:Int) (j:Nat) (e:j<l.length) (hp:¬ (gI l j<0\/6<gI l j\/(0<j/\gI l j<=gI l (j - 1)))) (hq:j=0->p= -1) (hq2:0<j->p=gI l (j - 1)):iZ (l.drop j) p=iZ (l.drop (j+1)) (gI l j):=by
 rw [fZ 0 e]
 simp only [iZ,show l[j]?.getD 0=gI l j from rfl]
 have h1:bD (gI l j) 0 6=true:=by simp [bD];omega
 have h2:p<gI l j:=by
  rcases Nat.eq_zero_or_pos j with h|h
  ·rw [hq h];omega
  ·rw [hq2 h];omega
 simp [h1,h2]
end Go.Eng
namespace Go.Eng
open Go Go.Proofs
theorem ab1 (l:List Int) (a:Nat) (hl:l.length<=4000):Fn Tryz.prog 22 [.ptr 0 0] [jh l a] (.agg (pK l a).1.enc) [jh l (pK l a).2] []:=by
 generalize hR:pK l a=R
 unfold pK Ig at hR
 simp only at hR
 refine Fn.aB Zc (by simp) ?_
 unfold Ew SC.mk'
 simp only [go_sem]
 have s1:=vD l a 1 4
 have s2:=vE l a (lo:=1) (hi:=4) (by omega)
 refine dG (b:=0) (xY l a 1 4 hl (by omega) (by omega)) ⟨rfl,⟨rfl,rfl⟩,⟨rfl,rfl⟩,trivial⟩ rfl rfl rfl rfl ?_
 generalize iq l a 1 4=s at hR s1 s2 ⊢
 generalize jq l a 1 4=a1 at hR ⊢
 simp only [go_sem]
 refine dG (b:=0) (xY l a1 1 5 hl (by omega) (by omega)) ⟨rfl,⟨rfl,rfl⟩,⟨rfl,rfl⟩,trivial⟩ rfl rfl rfl rfl ?_
 generalize iq l a1 1 5=c at hR ⊢
 generalize jq l a1 1 5=a2 at hR ⊢
 simp only [go_sem]
 refine dG (b:=0) (xY l a2 1 4 hl (by omega) (by omega)) ⟨rfl,⟨rfl,rfl⟩,⟨rfl,rfl⟩,trivial⟩ rfl rfl rfl rfl ?_
 generalize iq l a2 1 4=d at hR ⊢
 generalize jq l a2 1 4=a3 at hR ⊢
 simp only [go_sem]
 refine dG (b:=0) (xY l a3 1 3 hl (by omega) (by omega)) ⟨rfl,⟨rfl,rfl⟩,⟨rfl,rfl⟩,trivial⟩ rfl rfl rfl rfl ?_
 generalize iq l a3 1 3=li at hR ⊢
 generalize jq l a3 1 3=a4 at hR ⊢
 simp only [go_sem]
 refine dG (b:=0) (xY l a4 1 s hl (by omega) (by omega)) ⟨rfl,⟨rfl,rfl⟩,⟨rfl,rfl⟩,trivial⟩ rfl rfl rfl rfl ?_
 generalize iq l a4 1 s=lv at hR ⊢
 generalize jq l a4 1 s=a5 at hR ⊢
 simp only [go_sem]
 refine dG (b:=0) (nu l a5 12 hl (by omega)) ⟨rfl,⟨rfl,rfl⟩,trivial⟩ rfl rfl rfl rfl ?_
 generalize nV l a5 12=k at hR ⊢
 generalize nN l a5 12=a6 at hR ⊢
 simp only [go_sem]
 by_cases k1:(k==9)=true
 ·rw [if_pos k1] at hR
  simp only [k1,go_sem]
  have b1:=l9 l a6 200
  have b2:=nk l a6 (n:=200) (by omega)
  refine dG (b:=0) (nu l a6 200 hl (by omega)) ⟨rfl,⟨rfl,rfl⟩,trivial⟩ rfl rfl rfl rfl ?_
  simp only [cu (n:=1073741824 - nV l a6 200) (by omega),go_sem]
  subst hR
  exact Fin.bH _ rfl rfl rfl rfl rfl rfl rfl
 rw [if_neg k1] at hR
 simp only [Bool.not_eq_true] at k1
 simp only [k1,go_sem]
 by_cases k2:(k==10)=true
 ·rw [if_pos k2] at hR
  simp only [k2,go_sem]
  have b1:=l9 l a6 4
  have b2:=nk l a6 (n:=4) (by omega)
  refine dG (b:=0) (nu l a6 4 hl (by omega)) ⟨rfl,⟨rfl,rfl⟩,trivial⟩ rfl rfl rfl rfl ?_
  simp only [cu (n:=1073741824 - nV l a6 4) (by omega),go_sem]
  subst hR
  exact Fin.bH _ rfl rfl rfl rfl rfl rfl rfl
 rw [if_neg k2] at hR
 simp only [Bool.not_eq_true] at k2
 simp only [k2,go_sem]
 by_cases k3:(k==11)=true
 ·rw [if_pos k3] at hR
  simp only [k3,go_sem]
  have b1:=l9 l a6 3
  have b2:=nk l a6 (n:=3) (by omega)
  refine dG (b:=0) (nu l a6 3 hl (by omega)) ⟨rfl,⟨rfl,rfl⟩,trivial⟩ rfl rfl rfl rfl ?_
  simp only [cu (n:=65536 - nV l a6 3) (by omega),go_sem]
  subst hR
  exact Fin.bH _ rfl rfl rfl rfl rfl rfl rfl
 rw [if_neg k3] at hR
 simp only [Bool.not_eq_true] at k3
 simp only [k3,go_sem]
 subst hR
 exact Fin.bH _ rfl rfl rfl rfl rfl rfl rfl
theorem ab2 (l:List Int) (a:Nat) (n:Int) (hl:l.length<=4000) (hn1:1<=n) (hn:n<=1000):Fn Tryz.prog 15 [.ptr 0 0,I n] [jh l a] (.sl 1 (encI (tZ l a n).1)) [jh l (tZ l a n).2] []:=by
 generalize hR:tZ l a n=R
 unfold tZ at hR
 simp only at hR
 have hw:IntKind.i64.wrap (n+1)=n+1:=cu (by omega)
 refine Fn.aB Zb (by simp) ?_
 unfold s15 SC.mk'
 simp only [go_sem]
 refine dG (b:=0) (nu l a n hl (by omega)) ⟨rfl,⟨rfl,rfl⟩,trivial⟩ rfl rfl rfl rfl ?_
 generalize nV l a n=x at hR ⊢
 generalize nN l a n=a1 at hR ⊢
 simp only [hw,go_sem]
 refine dG (b:=0) (nu l a1 (n+1) hl (by omega)) ⟨rfl,⟨rfl,rfl⟩,trivial⟩ rfl rfl rfl rfl ?_
 generalize nV l a1 (n+1)=y at hR ⊢
 generalize nN l a1 (n+1)=a2 at hR ⊢
 simp only [go_sem]
 refine dG (b:=0) (nu l a2 6 hl (by omega)) ⟨rfl,⟨rfl,rfl⟩,trivial⟩ rfl rfl rfl rfl ?_
 generalize nV l a2 6=z at hR ⊢
 generalize nN l a2 6=a3 at hR ⊢
 simp only [go_sem]
 by_cases k1:(z==5)=true
 ·rw [if_pos k1] at hR
  simp only [k1,go_sem]
  subst hR
  exact Fin.nH _ rfl rfl rfl (by first|rfl|simp [au,rv,get,encI]) (by simp [aD,au,rv,get,encI])
 rw [if_neg k1] at hR
 simp only [Bool.not_eq_true] at k1
 simp only [k1,go_sem]
 by_cases k2:(x==y)=true
 ·rw [if_pos k2] at hR
  simp only [k2,go_sem]
  subst hR
  exact Fin.nH _ rfl rfl rfl (by first|rfl|simp [au,rv,get,encI]) (by simp [aD,au,rv,get,encI])
 rw [if_neg k2] at hR
 simp only [Bool.not_eq_true] at k2
 simp only [k2,go_sem]
 refine dG (b:=0) (nu l a3 2 hl (by omega)) ⟨rfl,⟨rfl,rfl⟩,trivial⟩ rfl rfl rfl rfl ?_
 generalize nV l a3 2=v at hR ⊢
 generalize nN l a3 2=a4 at hR ⊢
 by_cases k3:(v==0)=true
 ·rw [if_pos k3] at hR
  simp only [k3,go_sem]
  subst hR
  exact Fin.nH _ rfl rfl rfl (by first|rfl|simp [au,rv,get,encI]) (by simp [aD,au,rv,get,encI])
 rw [if_neg k3] at hR
 simp only [Bool.not_eq_true] at k3
 simp only [k3,go_sem]
 subst hR
 exact Fin.nH _ rfl rfl rfl (by first|rfl|simp [au,rv,get,encI]) (by simp [aD,au,rv,get,encI])
def cB {α:Type} (p:α->Bool):List α->Nat->Int
 |[],_=> -1
 |x::r,i=>if p x then (i:Int) else cB p r (i+1)
theorem vS {α:Type} (p:α->Bool):∀ (l:List α) (i:Nat),decide (0<=cB p l i)=l.any p
 |[],i=>by simp [cB]
 |x::r,i=>by
  simp only [cB,List.any_cons]
  split
  ·rename_i h;simp [h]
  ·rename_i h;rw [vS p r (i+1)];simp [h]
abbrev BO (sz:Nat):cK:=(.seq (.region [⟨(some 4),.bO (.const (.int .i64 0)),none,[]⟩] false) (.seq (.seq (.region [⟨(some 6),.bO (.tmp 0),none,[]⟩,⟨(some 7),.len (.tmp 6),none,[]⟩,⟨(some 8),.bO (.const (.int .i64 0)),none,[]⟩] false) (.block 0 (.loop (.seq (.region [⟨(some 9),.bin .lss (.tmp 8) (.tmp 7),none,[]⟩] false) (.seq (.cond (.tmp 9) .skip (.exit 0)) (.seq (.block 1 (.seq (.region [⟨(some 10),.bO (.tmp 8),none,[]⟩,⟨(some 5),.bO (.tmp 10),none,[]⟩] false) (.seq (.region [⟨(some 11),.bO (.tmp 1),none,[]⟩,⟨(some 12),.bO (.tmp 0),none,[]⟩,⟨(some 13),.bO (.tmp 5),none,[]⟩,⟨(some 14),.jA sz (.tmp 12) (.tmp 13),none,[]⟩,⟨(some 15),.load true sz (.tmp 14),none,[]⟩,⟨(some 16),.call (.tmp 11) [.tmp 15],none,[]⟩] false) (.cond (.tmp 16) (.seq (.region [⟨(some 17),.bO (.tmp 5),none,[]⟩,⟨(some 4),.bO (.tmp 17),none,[]⟩] false) .ret) .skip)))) (.region [⟨(some 18),.bin .add (.tmp 8) (.const (.int .i64 1)),none,[]⟩,⟨(some 8),.bO (.tmp 18),none,[]⟩] false))))))) (.seq (.region [⟨(some 4),.bO (.const (.int .i64 (-1))),none,[]⟩] false) .ret)))
section
variable {P:Program} {f g nt sz:Nat} {α:Type} (enc:α->List AV) (z:α) (hlen:∀ x,(enc x).length=sz)
include z hlen
theorem ab3 (hok:aF P f (BO sz) [.tmp 4] nt) (hnt:2<=nt) (hg:g<1000000) (hpure:∀ x,bf (enc x)=true) (l:List α) (hl:l.length<=100000) (p:α->Bool) (hp:∀ x ∈ l,Fn P g [.agg (enc x)] [] (Bo (p x)) [] []):
 Fn P f [.sl sz (l.map enc),.fn g []] [] (I (cB p l 0)) [] []:=by
 refine Fn.aB hok (by simpa using hnt) ?_
 unfold BO
 simp only [go_sem]
 refine go_loop (fun j:{j:Nat // j<=l.length/\cB p (l.drop j) j=cB p l 0}=>⟨1000,[(0,.sl sz (l.map enc)),(1,.fn g []),(7,I l.length),(8,I j.1)],[]⟩) (fun j=>l.length - j.1) ⟨0,by omega,rfl⟩ (wk [] []) ?_
 rintro ⟨j,hj,he⟩ B hB
 simp only [go_sem]
 by_cases e1:j<l.length
 ·have e2:decide ((j:Int)<(l.length:Int))=true:=by simp;omega
  have hw:=cZ (show j<=100000 by omega)
  have hx:nth (l.map enc) j=enc (l[j]?.getD z):=fJ enc z e1
  have hm:l[j]?.getD z ∈ l:=by rw [List.getElem?_eq_getElem e1];exact List.getElem_mem _
  rw [fZ z e1] at he
  simp only [cB] at he
  generalize l[j]?.getD z=x at hx hm he
  have hpx:=hp x hm
  have h1:=hlen x
  have h2:=hpure x
  have h3:sz<=(enc x).length:=by omega
  have h4:List.take sz (enc x)=enc x:=eZ (by omega)
  simp only [e2,hx,h1,h4,hg,Nat.le_refl,Int.toNat_natCast,List.length_map,List.drop_zero,Nat.zero_add,List.nil_append,List.append_nil,go_sem]
  repeat (refine bn ?_)
  refine aS hpx (by simp [bf,AV.pure,h2]) rfl ?_
  by_cases e3:p x=true
  ·simp only [e3,go_sem]
   rw [if_pos e3] at he
   exact Fin.aQ _ rfl rfl rfl (by rw [<-he];rfl)
  ·rw [if_neg e3] at he
   simp only [Bool.not_eq_true] at e3
   simp only [e3,hw,go_sem]
   exact hB _ ⟨j+1,by omega,he⟩ (by simp only;omega) (wk [] [])
 ·have e2:decide ((j:Int)<(l.length:Int))=false:=by simp;omega
  rw [iY (by omega)] at he
  simp only [cB] at he
  simp only [e2,go_sem]
  exact Fin.aQ _ rfl rfl rfl (by rw [<-he];rfl)
theorem Ip (hok:aF P f (BO sz) [.tmp 4] nt) (hnt:2<=nt) (hg:g<1000000) (hpure:∀ x,bf (enc x)=true) (l:List α) (hl:l.length<=100000) (p:α->Bool) (cs:List AV) (hcs:bf cs=true) (hp:∀ x ∈ l,Fn P g [.agg (enc x),.ptr 0 0] [cs] (Bo (p x)) [cs] []):
 dW P f [.sl sz (l.map enc),.fn g [.ptr 0 0]] [cs] [] (I (cB p l 0)) [cs] []:=by
 refine dW.aB hok (by simpa using hnt) ?_
 unfold BO
 simp only [go_sem]
 refine go_loop (fun j:{j:Nat // j<=l.length/\cB p (l.drop j) j=cB p l 0}=>⟨1000,[(0,.sl sz (l.map enc)),(1,.fn g [.ptr 0 0]),(7,I l.length),(8,I j.1)],[(0,.box cs)]⟩) (fun j=>l.length - j.1) ⟨0,by omega,rfl⟩ (Wk.mk [(0,0)] [] rfl rfl (by simp only [bq,aR,get,if_true];exact ⟨ic _ hcs,trivial⟩) trivial (by simp only [bQ,rv,au,go_sem]<;>try simp)) ?_
 rintro ⟨j,hj,he⟩ B hB
 simp only [go_sem]
 by_cases e1:j<l.length
 ·have e2:decide ((j:Int)<(l.length:Int))=true:=by simp;omega
  have hw:=cZ (show j<=100000 by omega)
  have hx:nth (l.map enc) j=enc (l[j]?.getD z):=fJ enc z e1
  have hm:l[j]?.getD z ∈ l:=by rw [List.getElem?_eq_getElem e1];exact List.getElem_mem _
  rw [fZ z e1] at he
  simp only [cB] at he
  generalize l[j]?.getD z=x at hx hm he
  have hpx:=hp x hm
  have h1:=hlen x
  have h2:=hpure x
  have h4:List.take sz (enc x)=enc x:=eZ (by omega)
  simp only [e2,hx,h1,h4,hg,Nat.le_refl,Int.toNat_natCast,List.length_map,List.drop_zero,Nat.zero_add,List.nil_append,List.cons_append,List.append_nil,go_sem]
  repeat (refine bn ?_)
  refine dG (b:=0) hpx ⟨⟨rfl,by simp [AV.pure,h2]⟩,rfl,trivial⟩ rfl hcs hcs rfl ?_
  by_cases e3:p x=true
  ·simp only [e3,go_sem]
   rw [if_pos e3] at he
   exact Fin.bH _ rfl rfl rfl rfl hcs rfl (by rw [<-he];rfl)
  ·rw [if_neg e3] at he
   simp only [Bool.not_eq_true] at e3
   simp only [e3,hw,go_sem]
   exact hB _ ⟨j+1,by omega,he⟩ (by simp only;omega) (Wk.mk [(0,0)] [] rfl rfl (by simp only [bq,aR,get,if_true];exact ⟨ic _ hcs,trivial⟩) trivial (by simp only [bQ,rv,au,go_sem]<;>try simp))
 ·have e2:decide ((j:Int)<(l.length:Int))=false:=by simp;omega
  rw [iY (by omega)] at he
  simp only [cB] at he
  simp only [e2,go_sem]
  exact Fin.bH _ rfl rfl rfl rfl hcs rfl (by rw [<-he];rfl)
end
end Go.Eng
namespace Go.Eng
open Go Go.Proofs
abbrev BP (f0:Nat):cK:=(.seq (.region [⟨(some 4),.bO (.const (.bool false)),none,[]⟩] false) (.seq (.region [⟨(some 5),.bO (.tmp 0),none,[]⟩,⟨(some 6),.bO (.tmp 1),none,[]⟩,⟨(some 7),.call (.func f0) [.tmp 5,.tmp 6],none,[]⟩,⟨(some 8),.bin .geq (.tmp 7) (.const (.int .i64 0)),none,[]⟩,⟨(some 4),.bO (.tmp 8),none,[]⟩] false) .ret))
abbrev BQ (e sz bW:Nat) (zs:List Value):cK:=(.seq (.region [⟨(some 2),.bO (.const (.slice none 0 0)),none,[]⟩] false) (.seq (.seq (.region [⟨(some 3),.bO (.tmp 0),none,[]⟩,⟨(some 4),.jw false (.tmp 3),none,[]⟩] false) (.cond (.tmp 4) (.seq (.region [⟨(some 2),.bO (.const (.slice none 0 0)),none,[]⟩] false) .ret) .skip)) (.seq (.region [⟨(some 5),.jm e sz zs 0 [],none,[]⟩,⟨(some 6),.bO (.tmp 0),none,[]⟩,⟨(some 7),.app e sz bW zs (.tmp 5) (.tmp 6),none,[]⟩,⟨(some 2),.bO (.tmp 7),none,[]⟩] false) .ret)))
abbrev PO (sz:Nat):cK:=(.seq (.region [⟨(some 2),.bO (.const (.slice none 0 0)),none,[]⟩] false) (.seq (.region [⟨(some 3),.bO (.tmp 0),none,[]⟩,⟨(some 4),.bO (.tmp 0),none,[]⟩,⟨(some 5),.len (.tmp 4),none,[]⟩,⟨(some 6),.bO (.tmp 0),none,[]⟩,⟨(some 7),.len (.tmp 6),none,[]⟩,⟨(some 8),.slice sz (.tmp 3) none (some (.tmp 5)) (some (.tmp 7)),none,[]⟩,⟨(some 2),.bO (.tmp 8),none,[]⟩] false) .ret))
abbrev PS:cK:=(.seq (.region [⟨(some 4),.bO (.const (.int .i64 0)),none,[]⟩] false) (.seq (.seq (.region [⟨(some 6),.bO (.tmp 0),none,[]⟩,⟨(some 7),.len (.tmp 6),none,[]⟩,⟨(some 8),.bO (.const (.int .i64 0)),none,[]⟩] false) (.block 0 (.loop (.seq (.region [⟨(some 9),.bin .lss (.tmp 8) (.tmp 7),none,[]⟩] false) (.seq (.cond (.tmp 9) .skip (.exit 0)) (.seq (.block 1 (.seq (.region [⟨(some 10),.bO (.tmp 8),none,[]⟩,⟨(some 5),.bO (.tmp 10),none,[]⟩] false) (.seq (.region [⟨(some 11),.bO (.tmp 1),none,[]⟩,⟨(some 12),.bO (.tmp 0),none,[]⟩,⟨(some 13),.bO (.tmp 5),none,[]⟩,⟨(some 14),.jA 1 (.tmp 12) (.tmp 13),none,[]⟩,⟨(some 15),.load false 1 (.tmp 14),none,[]⟩,⟨(some 16),.bin .eql (.tmp 11) (.tmp 15),none,[]⟩] false) (.cond (.tmp 16) (.seq (.region [⟨(some 17),.bO (.tmp 5),none,[]⟩,⟨(some 4),.bO (.tmp 17),none,[]⟩] false) .ret) .skip)))) (.region [⟨(some 18),.bin .add (.tmp 8) (.const (.int .i64 1)),none,[]⟩,⟨(some 8),.bO (.tmp 18),none,[]⟩] false))))))) (.seq (.region [⟨(some 4),.bO (.const (.int .i64 (-1))),none,[]⟩] false) .ret)))
section
variable {P:Program} {f f0 g nt sz e bW:Nat} {zs:List Value}
theorem Iq {v:AV} {k:Int} (hf0:f0<1000000) (hok:aF P f (BP f0) [.tmp 4] nt) (hnt:2<=nt) {x:AV} (hx:x.pure=true) (hv:v.pure=true) (h:Fn P f0 [x,v] [] (I k) [] []):Fn P f [x,v] [] (Bo (decide (0<=k))) [] []:=by
 refine Fn.aB hok (by simpa using hnt) ?_
 unfold BP
 simp only [hf0,List.append_nil,go_sem]
 refine aS h (by simp [bf,hx,hv]) rfl ?_
 simp only [go_sem]
 exact Fin.aQ _ rfl rfl rfl rfl
theorem ab4 {xs':List (List AV)} {k:Int} {cs:List AV} (hf0:f0<1000000) (hok:aF P f (BP f0) [.tmp 4] nt) (hnt:2<=nt) (hcs:bf cs=true) (h:dW P f0 [.sl sz xs',.fn g [.ptr 0 0]] [cs] [] (I k) [cs] []):dW P f [.sl sz xs',.fn g [.ptr 0 0]] [cs] [] (Bo (decide (0<=k))) [cs] []:=by
 refine dW.aB hok (by simpa using hnt) ?_
 unfold BP
 simp only [hf0,List.append_nil,go_sem]
 refine wX h [0] [] (I k) [cs] [] (by simp [au,rv,dw,get]) ?_ (by simp [gP]) rfl ?_ (by simp [jG]) (by simp [rv]) ?_
 ·simp only [gM,get,if_true,and_true];exact ic _ hcs
 ·simp only [jF,and_true];exact ic _ hcs
 simp only [go_sem]
 exact Fin.bH _ rfl rfl rfl rfl hcs rfl rfl
theorem vT (hok:aF P f (BQ e sz bW zs) [.tmp 2] nt) (hnt:1<=nt) (xs:List (List AV)) (hl:xs.length<=10000) (hby:bW<=10000):Fn P f [.sl sz xs] [] (.own 4 sz 0 xs.length) [] [.row e sz xs]:=by
 refine Fn.aB hok (by simpa using hnt) ?_
 unfold BQ
 have mx:∀ j:Nat,j<=10000->j<=maxLen:=fun j h=>Nat.le_trans h (by decide)
 have hb:xs.length*bW<=140737488355328:=Nat.le_trans (Nat.mul_le_mul hl hby) (by decide)
 have hm:=mx xs.length hl
 cases xs with
 |nil=>
  simp only [go_sem]
  refine ⟨?_,?_⟩
  ·exact ⟨[],[4],_,rfl,rfl,by simp only [bq,outs,dM,bS,List.map_nil,List.nil_append,List.not_mem_nil,not_false_eq_true,go_sem]<;>simp,by simp only [gG,outs,dM,bS,go_sem]<;>simp,by simp [aD,rv]⟩
  ·try simp only [List.take_zero,List.drop_zero,List.nil_append,List.length_nil,go_sem]
   exact Fin.tC 32 _ rfl rfl rfl (by simp only [aD,rv,get,if_true,and_self])
 |cons x l=>
  simp only [List.length_cons] at hb hm
  simp only [List.take_zero,List.drop_zero,List.nil_append,List.length_nil,go_sem]
  exact ⟨⟨by omega,hm⟩,Fin.tC 48 _ rfl rfl rfl (by simp only [aD,rv,get,if_true,and_self])⟩
theorem clip (hok:aF P f (PO sz) [.tmp 2] nt) (hnt:1<=nt) (xs:List (List AV)):Fn P f [.sl sz xs] [] (.fn 2000000 [.sl sz xs]) [] []:=by
 refine Fn.aB hok (by simpa using hnt) ?_
 unfold PO
 simp only [go_sem]
 exact Fin.aQ _ rfl rfl rfl rfl
theorem ab5 (hok:aF P f PS [.tmp 4] nt) (hnt:2<=nt) (l:List Int) (x:Int) (hl:l.length<=10000):Fn P f [.sl 1 (encI l),I x] [] (I (cB (fun y=>x==y) l 0)) [] []:=by
 refine Fn.aB hok (by simpa using hnt) ?_
 unfold PS
 simp only [go_sem]
 refine go_loop (fun j:{j:Nat // j<=l.length/\cB (fun y=>x==y) (l.drop j) j=cB (fun y=>x==y) l 0}=>⟨1000,[(0,.sl 1 (encI l)),(1,I x),(7,I l.length),(8,I j.1)],[]⟩) (fun j=>l.length - j.1) ⟨0,by omega,rfl⟩ (wk [] []) ?_
 rintro ⟨j,hj,he⟩ B hB
 simp only [go_sem]
 by_cases e1:j<l.length
 ·have e2:decide ((j:Int)<(l.length:Int))=true:=by simp;omega
  have hw:=cZ (show j<=100000 by omega)
  have hx:=AY e1
  rw [fZ 0 e1] at he
  simp only [cB] at he
  generalize l[j]?.getD 0=y at hx he
  simp only [e2,hx,Int.toNat_natCast,aY,go_sem]
  repeat (refine bn ?_)
  by_cases e3:(x==y)=true
  ·simp only [e3,go_sem]
   rw [if_pos e3] at he
   exact Fin.aQ _ rfl rfl rfl (by rw [<-he];rfl)
  ·rw [if_neg e3] at he
   simp only [Bool.not_eq_true] at e3
   simp only [e3,hw,go_sem]
   exact hB _ ⟨j+1,by omega,he⟩ (by simp only;omega) (wk [] [])
 ·have e2:decide ((j:Int)<(l.length:Int))=false:=by simp;omega
  rw [iY (by omega)] at he
  simp only [cB] at he
  simp only [e2,go_sem]
  exact Fin.aQ _ rfl rfl rfl (by rw [<-he];rfl)
end
end Go.Eng
namespace Go.Eng
open Go Go.Proofs
theorem PU (slot:Int):∀ (l:List Span) (i:Nat),cB (fun x=>x.bM==slot) l i=o8 slot l i
 |[],i=>rfl
 |x::r,i=>by simp only [cB,o8,PU slot r]
theorem ab6 (x:Span) (slot:Int):Fn Tryz.prog 201 [.agg x.enc,.ptr 0 0] [[I slot]] (Bo (x.bM==slot)) [[I slot]] []:=by
 refine Fn.aB Nc (by simp) ?_
 unfold Ff SC.mk' Span.enc
 simp only [go_sem]
 exact Fin.bH _ rfl rfl rfl rfl rfl rfl rfl
theorem Ir (l:List Span) (slot:Int) (hl:l.length<=65536):Fn Tryz.prog 125 [.sl 3 (l.map Span.enc),I slot] [] (I (o8 slot l 0)) [] []:=by
 have hi:=Ip (g:=201) Span.enc Span.z Span.dJ Fe (by decide) (by decide) (fun _=>rfl) l (by omega) (fun x=>x.bM==slot) [I slot] rfl (fun x _=>ab6 x slot)
 rw [PU] at hi
 refine Fn.aB MQ (by simp) ?_
 unfold EQ SC.mk'
 simp only [go_sem]
 refine wX hi [8] [] (I (o8 slot l 0)) [[I slot]] [] (by simp [au,rv,dw,get]) (by simp [gM,au,rv,get]) (by simp [gP]) rfl (by simp [jF,au,rv]) (by simp [jG]) (by simp [rv]) ?_
 simp only [go_sem]
 exact Fin.aQ _ rfl rfl rfl rfl
def tl:List Span->Int->Bool
 |[],n=>n==65536
 |x::r,n=>if x.low !=n||(decide (x.high<x.low)||decide (65536<=x.high)) then false else tl r (x.high+1)
theorem PV (d:Dir):∀ (l:List Span) (n:Int),kg d l n=if tl l n then pq d d.l else 7
 |[],n=>by
  simp only [kg,tl]
  by_cases h:n=65536
  ·simp [h]
  ·have h1:(n !=65536)=true:=by simpa using h
   have h2:(n==65536)=false:=by simpa using h
   simp [h1,h2]
 |x::r,n=>by
  simp only [kg,tl]
  split
  ·rfl
  ·exact PV d r _
theorem ab7 (l:List Span) (hl:l.length<=65536):Fn Tryz.prog 196 [.sl 3 (l.map Span.enc)] [] (Bo (tl l 0)) [] []:=by
 generalize hR:tl l 0=R
 refine Fn.aB M6 (by simp) ?_
 unfold E9 SC.mk'
 simp only [List.length_map,go_sem]
 refine go_loop (fun x:{x:Nat×Int // x.1<=l.length/\0<=x.2/\x.2<=65536/\tl (l.drop x.1) x.2=R}=>⟨1000,[(3,I x.1.2),(6,.sl 3 (l.map Span.enc)),(7,I l.length),(8,I x.1.1)],[]⟩) (fun x=>l.length - x.1.1) ⟨(0,0),by simp,by simp,by simp,by simpa using hR⟩ (wk [] []) ?_
 rintro ⟨⟨j,n⟩,hj,n0,n1,he⟩ B hB
 simp only at hj n0 n1 he
 simp only [go_sem]
 by_cases e1:j<l.length
 ·have e2:decide ((j:Int)<(l.length:Int))=true:=by simp;omega
  have hw:=cZ (show j<=100000 by omega)
  have hx:nth (l.map Span.enc) j=Span.enc (l[j]?.getD Span.z):=fJ Span.enc Span.z e1
  rw [fZ Span.z e1] at he
  simp only [tl] at he
  generalize l[j]?.getD Span.z=x at hx he
  simp only [e2,hx,Span.enc,Int.toNat_natCast,List.length_map,go_sem]
  repeat (refine bn ?_)
  by_cases c1:(x.low !=n)=true
  ·rw [if_pos (by simp [c1])] at he
   simp only [c1,go_sem]
   exact Fin.aQ _ rfl rfl rfl (by rw [<-he];rfl)
  simp only [Bool.not_eq_true] at c1
  by_cases c2:decide (x.high<x.low)=true
  ·rw [if_pos (by simp [c2])] at he
   simp only [c1,c2,go_sem]
   exact Fin.aQ _ rfl rfl rfl (by rw [<-he];rfl)
  simp only [Bool.not_eq_true] at c2
  by_cases c3:decide (65536<=x.high)=true
  ·rw [if_pos (by simp [c3])] at he
   simp only [c1,c2,c3,go_sem]
   exact Fin.aQ _ rfl rfl rfl (by rw [<-he];rfl)
  simp only [Bool.not_eq_true] at c3
  rw [if_neg (by simp [c1,c2,c3])] at he
  have q1:x.low=n:=by simpa using c1
  have q2:¬ x.high<x.low:=by simpa using c2
  have q3:¬ 65536<=x.high:=by simpa using c3
  have hw2:IntKind.i64.wrap (x.high+1)=x.high+1:=cu (by omega)
  simp only [c1,c2,c3,hw,hw2,go_sem]
  exact hB _ ⟨(j+1,x.high+1),by simp only;omega,by simp only;omega,by simp only;omega,he⟩ (by simp only;omega) (wk [] [])
 ·have e2:decide ((j:Int)<(l.length:Int))=false:=by simp;omega
  rw [iY (by omega)] at he
  simp only [tl] at he
  simp only [e2,go_sem]
  exact Fin.aQ _ rfl rfl rfl (by rw [<-he];rfl)
def ny (d:Dir):List Int->Nat->Bool
 |[],_=>true
 |x::r,i=>if decide (x< -1)||(decide ((d.aM.length:Int)<=x)||(decide (0<=d.idx i)&&x != -1)) then false else ny d r (i+1)
theorem PW (d:Dir):∀ (l:List Int) (i:Nat),qY d l i=if ny d l i then tH d d.aM 0 else 7
 |[],i=>rfl
 |x::r,i=>by
  simp only [qY,ny]
  split
  ·rfl
  ·exact PW d r _
theorem PX (d:Dir):∀ (l:List Int) (i:Nat),ny d l i=true->∀ x ∈ l,-1<=x/\x<(d.aM.length:Int)
 |[],i,_=>by simp
 |x::r,i,h=>by
  simp only [ny] at h
  split at h
  ·cases h
  ·rename_i hc
   simp at hc
   intro y hy
   rcases List.mem_cons.1 hy with rfl|hy
   ·omega
   ·exact PX d r _ h y hy
def pQ (d:Dir):List Int->Nat->Bool
 |[],_=>true
 |_::r,i=>if 0<=aM d.aM d.aM.length i then false else pQ d r (i+1)
theorem PY (d:Dir):∀ (l:List Int) (i:Nat),tH d l i=if pQ d l i then 0 else 7
 |[],i=>rfl
 |x::r,i=>by
  simp only [tH,pQ]
  split
  ·rfl
  ·exact PY d r _
theorem ab8 (d:Dir) (hl:d.l.length<=65536) (hf:d.aM.length<=6):Fn Tryz.prog 199 [.agg d.enc] [] (Bo (ny d d.aM 0&&pQ d d.aM 0)) [] []:=by
 generalize hR:ny d d.aM 0=R
 refine Fn.aB Na (by simp) ?_
 unfold Fb SC.mk' Dir.enc
 simp only [aY,go_sem]
 refine go_loop (fun j:{j:Nat // j<=d.aM.length/\ny d (d.aM.drop j) j=R}=>⟨1000,[(1,.ptr 8 0),(9,.sl 1 (encI d.aM)),(10,I d.aM.length),(11,I j.1)],[(8,.box d.enc)]⟩) (fun j=>d.aM.length - j.1) ⟨0,by omega,by simpa using hR⟩ (Wk.mk [(8,8)] [] rfl rfl (by simp only [bq,aR,au,rv,Dir.enc,go_sem]<;>try simp) trivial (by simp only [bQ,rv,au,go_sem]<;>try simp)) ?_
 rintro ⟨j,hj,he⟩ B hB
 simp only [Dir.enc,aY,go_sem]
 by_cases e1:j<d.aM.length
 ·have e2:decide ((j:Int)<(d.aM.length:Int))=true:=by simp;omega
  have hw:=cZ (show j<=100000 by omega)
  have hx:=AY e1
  have hfi:=Ir d.l j hl
  rw [fZ 0 e1] at he
  simp only [ny] at he
  change Fn _ _ _ _ (I (d.idx j)) _ _ at hfi
  generalize d.aM[j]?.getD 0=x at hx he
  generalize d.idx j=k at hfi he
  simp only [e2,hx,Int.toNat_natCast,aY,go_sem]
  repeat (refine bn ?_)
  refine aS hfi rfl rfl ?_
  have c2:(decide (x< -1))=true\/decide (x< -1)=false:=by cases decide (x< -1)<;>simp
  by_cases c1:decide (0<=k)=true
  ·by_cases c3:(x != -1)=true
   ·rw [if_pos (by simp at c1 c3 ⊢;omega)] at he
    simp only [c1,c3,go_sem]
    exact Fin.aQ _ rfl rfl rfl (by rw [<-he];rfl)
   ·simp only [Bool.not_eq_true] at c3
    have hx1:x= -1:=by simpa using c3
    have c4:decide (x< -1)=false:=by simp;omega
    have c5:decide ((d.aM.length:Int)<=x)=false:=by simp;omega
    rw [if_neg (by simp [c3,c4,c5])] at he
    simp only [c1,c3,c4,c5,hw,aY,go_sem]
    exact hB _ ⟨j+1,by omega,he⟩ (by simp only;omega) (Wk.mk [(8,8)] [] rfl rfl (by simp only [bq,aR,au,rv,Dir.enc,go_sem]<;>try simp) trivial (by simp only [bQ,rv,au,go_sem]<;>try simp))
  simp only [Bool.not_eq_true] at c1
  rcases c2 with c2|c2
  ·rw [if_pos (by simp [c2])] at he
   simp only [c1,c2,go_sem]
   exact Fin.aQ _ rfl rfl rfl (by rw [<-he];rfl)
  by_cases c3:decide ((d.aM.length:Int)<=x)=true
  ·rw [if_pos (by simp [c3])] at he
   simp only [c1,c2,c3,aY,go_sem]
   exact Fin.aQ _ rfl rfl rfl (by rw [<-he];rfl)
  simp only [Bool.not_eq_true] at c3
  rw [if_neg (by simp [c1,c2,c3])] at he
  simp only [c1,c2,c3,hw,aY,go_sem]
  exact hB _ ⟨j+1,by omega,he⟩ (by simp only;omega) (Wk.mk [(8,8)] [] rfl rfl (by simp only [bq,aR,au,rv,Dir.enc,go_sem]<;>try simp) trivial (by simp only [bQ,rv,au,go_sem]<;>try simp))
 ·have e2:decide ((j:Int)<(d.aM.length:Int))=false:=by simp;omega
  rw [iY (by omega)] at he
  simp only [ny] at he
  subst he
  have hin:=PX d d.aM 0 hR
  clear hB
  rw [Bool.true_and]
  generalize hR2:pQ d d.aM 0=R
  simp only [e2,aY,go_sem]
  refine go_loop (fun j:{j:Nat // j<=d.aM.length/\pQ d (d.aM.drop j) j=R}=>⟨2000,[(1,.ptr 8 0),(40,I d.aM.length),(41,I j.1)],[(8,.box d.enc)]⟩) (fun j=>d.aM.length - j.1) ⟨0,by omega,by simpa using hR2⟩ (Wk.mk [(8,8)] [] rfl rfl (by simp only [bq,aR,au,rv,Dir.enc,go_sem]<;>try simp) trivial (by simp only [bQ,rv,au,go_sem]<;>try simp)) ?_
  rintro ⟨j,hj,he⟩ B hB
  simp only [Dir.enc,aY,go_sem]
  by_cases e1:j<d.aM.length
  ·have e2:decide ((j:Int)<(d.aM.length:Int))=true:=by simp;omega
   have hw:=cZ (show j<=100000 by omega)
   rw [fZ 0 e1] at he
   simp only [pQ] at he
   generalize hF:aM d.aM d.aM.length j=F at he
   simp only [e2,aY,go_sem]
   refine go_loop (fun x:{x:Nat×Int // x.1<=d.aM.length/\-1<=x.2/\x.2<d.aM.length/\aM d.aM (d.aM.length - x.1) x.2=F}=>⟨3000,[(1,.ptr 8 0),(7,I x.1.2),(40,I d.aM.length),(41,I j),(47,I d.aM.length),(48,I x.1.1)],[(8,.box d.enc)]⟩) (fun x=>d.aM.length - x.1.1) ⟨(0,j),by simp,by simp only;omega,by simp only;omega,by simpa using hF⟩ (Wk.mk [(8,8)] [] rfl rfl (by simp only [bq,aR,au,rv,Dir.enc,go_sem]<;>try simp) trivial (by simp only [bQ,rv,au,go_sem]<;>try simp)) ?_
   rintro ⟨⟨i,at_⟩,hi,a0,a1,hf2⟩ B2 hB2
   simp only at hi a0 a1 hf2
   simp only [Dir.enc,aY,go_sem]
   by_cases f1:i<d.aM.length
   ·have f2:decide ((i:Int)<(d.aM.length:Int))=true:=by simp;omega
    have hw2:=cZ (show i<=100000 by omega)
    obtain ⟨n,hn⟩:∃ n,d.aM.length - i=n+1:=⟨d.aM.length - i - 1,by omega⟩
    rw [hn] at hf2
    simp only [aM] at hf2
    by_cases g1:0<=at_
    ·rw [if_pos g1] at hf2
     have g2:decide (0<=at_)=true:=by simpa using g1
     have hx:nth (encI d.aM) at_.toNat=[I (gI d.aM at_.toNat)]:=AY (by omega)
     have hg:=vN (i:=at_.toNat) hin (by omega)
     simp only [f2,g2,hx,hw2,aY,go_sem]
     repeat (refine bn ?_)
     exact hB2 _ ⟨(i+1,gI d.aM at_.toNat),by simp only;omega,hg.1,hg.2,by rw [show d.aM.length - (i+1)=n by omega];exact hf2⟩ (by simp only;omega) (Wk.mk [(8,8)] [] rfl rfl (by simp only [bq,aR,au,rv,Dir.enc,go_sem]<;>try simp) trivial (by simp only [bQ,rv,au,go_sem]<;>try simp))
    ·rw [if_neg g1] at hf2
     have g2:decide (0<=at_)=false:=by simpa using g1
     simp only [f2,g2,hw2,go_sem]
     have hf3:aM d.aM (d.aM.length - (i+1)) at_=F:=by
      rw [<-hf2]
      cases d.aM.length - (i+1) with
      |zero=>rfl
      |succ k=>simp only [aM,if_neg g1]
     exact hB2 _ ⟨(i+1,at_),by simp only;omega,a0,a1,hf3⟩ (by simp only;omega) (Wk.mk [(8,8)] [] rfl rfl (by simp only [bq,aR,au,rv,Dir.enc,go_sem]<;>try simp) trivial (by simp only [bQ,rv,au,go_sem]<;>try simp))
   ·have f2:decide ((i:Int)<(d.aM.length:Int))=false:=by simp;omega
    rw [show d.aM.length - i=0 by omega] at hf2
    simp only [aM] at hf2
    subst hf2
    by_cases g1:0<=at_
    ·rw [if_pos g1] at he
     have g2:decide (0<=at_)=true:=by simpa using g1
     simp only [f2,g2,go_sem]
     exact Fin.aQ _ rfl rfl rfl (by rw [<-he];rfl)
    ·rw [if_neg g1] at he
     have g2:decide (0<=at_)=false:=by simpa using g1
     simp only [f2,g2,hw,go_sem]
     exact hB _ ⟨j+1,by omega,he⟩ (by simp only;omega) (Wk.mk [(8,8)] [] rfl rfl (by simp only [bq,aR,au,rv,Dir.enc,go_sem]<;>try simp) trivial (by simp only [bQ,rv,au,go_sem]<;>try simp))
  ·have e2:decide ((j:Int)<(d.aM.length:Int))=false:=by simp;omega
   rw [iY (by omega)] at he
   simp only [pQ] at he
   simp only [e2,go_sem]
   exact Fin.aQ _ rfl rfl rfl (by rw [<-he];rfl)
def rG (n:Nat) (x:Span):Bool:=decide (x.bM<0)||decide ((n:Int)<=x.bM)
theorem PZ (d:Dir):∀ l:List Span,pq d l=if l.any (rG d.aM.length) then 4 else o9 d d.l 0
 |[]=>rfl
 |x::r=>by
  simp only [pq,List.any_cons,rG]
  by_cases h:(decide (x.bM<0)||decide ((d.aM.length:Int)<=x.bM))=true
  ·simp only [h,if_true,Bool.true_or]
  ·simp only [Bool.not_eq_true] at h
   rw [if_neg (by simp [h]),PZ d r]
   simp only [rG,h,Bool.false_or]
theorem ab9 (x:Span) (n:Nat):Fn Tryz.prog 198 [.agg x.enc,.ptr 0 0] [[I n]] (Bo (rG n x)) [[I n]] []:=by
 unfold rG
 refine Fn.aB M9 (by simp) ?_
 unfold Fa SC.mk' Span.enc
 simp only [go_sem]
 by_cases c:decide (x.bM<0)=true
 ·simp only [c,go_sem]
  exact Fin.bH _ rfl rfl rfl rfl rfl rfl (by simp [aD])
 ·simp only [Bool.not_eq_true] at c
  simp only [c,go_sem]
  exact Fin.bH _ rfl rfl rfl rfl rfl rfl (by simp [aD])
theorem acd (l:List Span) (n:Nat) (hl:l.length<=65536):dW Tryz.prog 197 [.sl 3 (l.map Span.enc),.fn 198 [.ptr 0 0]] [[I n]] [] (Bo (l.any (rG n))) [[I n]] []:=by
 rw [<-vS _ l 0]
 exact ab4 (by decide) M8 (by decide) rfl (Ip (g:=198) Span.enc Span.z Span.dJ Fe (by decide) (by decide) (fun _=>rfl) l (by omega) (rG n) [I n] rfl (fun x _=>ab9 x n))
end Go.Eng
