/-
  Part of a proof: lemmas and definitions of this work.
  No condition.
-/
import Derived.Test.YthhjbngoibmpgaaGreatH08
import Derived.Test.YthhjbngoibmpgaaGreatH14
import Derived.Test.YthhjbngoibmpgaaGreatH13
set_option linter.all false
set_option maxRecDepth 100000
set_option maxHeartbeats 8000000
namespace Go.Eng
open Go Go.Proofs
theorem Ii {α:Type} (z:α) {l:List α} {j:Nat} (h:j<l.length):l.take (j+1)=l.take j++[l[j]?.getD z]:=by
 rw [List.take_succ_eq_append_getElem h];simp [h]
theorem Ring.val_zero {r:Ring} (h:r.val=0):∃ n h' l,Rg n h' l/\r=Ring.mk' n h' l:=by
 obtain ⟨cs,hd,s⟩:=r
 obtain ⟨n,h',l,rg,rfl,rfl,rfl⟩:=aaB h
 exact ⟨n,h',l,rg,rfl⟩
theorem Ring.Px {n h:Nat} {l:List ak} (rg:Rg n h l):(Ring.mk' n h l).list=l:=by
 unfold Ring.list vH Ring.mk'
 simp only
 rw [if_neg (fun e=>e rg.ok)]
 simp only [Int.toNat_natCast,GH rg.ll rg.hh]
theorem Ring.yM (r:Ring):r.list.length<=12:=by
 by_cases h:r.val=0
 ·obtain ⟨n,h',l,rg,rfl⟩:=Ring.val_zero h
  rw [Ring.Px rg]
  have:=rg.n2;have:=rg.ll;omega
 ·unfold Ring.list vH;rw [if_pos (show gm r.cells r.head r.size≠0 from h)];exact Nat.zero_le _
end Go.Eng
namespace Go.Eng
open Go
theorem Py (c:Int) (h:1<=c/\c<=12):(Ring.new c).2=0/\(Ring.new c).1.val=0/\(Ring.new c).1.list=[]/\(Ring.new c).1.size=0/\(Ring.new c).1.cells.length<=12:=by
 have e:Ring.new c=(Ring.mk' c.toNat 0 [],0):=by
  unfold Ring.new;rw [if_neg (by omega),if_neg (by omega)]
 have rg:Rg c.toNat 0 []:=⟨by omega,by omega,by omega,by simp,by simp [iw,eG,dup,ids]⟩
 rw [e]
 exact ⟨rfl,rg.ok,Ring.Px rg,rfl,by show (iy c.toNat 0 []).length<=12;rw [o5];omega⟩
theorem Pz:Table.z.val=0:=by decide
theorem abQ:∀ n ∈ [(1:Int),2,3,4,5,6],∀ i ∈ [(0:Int),1,2,3,4,5],i<n->qW ((i*65536).tdiv n) (((i+1)*65536).tdiv n - 1)=true:=by decide
structure vR (s:aj):Prop where
 v:s.val=0
 r:s.ready.list=[]
 l:s.aL=Table.z
 c:s.ready.cells.length<=12
theorem vR.cn {s:aj} (h:vR s) (e li:Int):s.counts e li=(0,0):=by
 unfold aj.counts aj.dH
 rw [h.r,h.l]
 simp [eT]
theorem abR {c:Int} (h:1<=c/\c<=12):vR (aj.free c).1:=by
 obtain ⟨h1,h2,h3,h4,h5⟩:=Py c h
 have e:(aj.free c).1=⟨false,0,0,(Ring.new c).1,Table.z⟩:=by unfold aj.free;rw [if_neg (by omega)]
 rw [e]
 refine ⟨?_,h3,rfl,h5⟩
 unfold aj.val aj.cnt
 simp [h2,Pz,h4]
theorem abS {c lo hi:Int} (h:1<=c/\c<=12) (hs:qW lo hi=true):vR (aj.new c lo hi).1:=by
 obtain ⟨h1,h2,h3,h4,h5⟩:=Py c h
 have e:(aj.new c lo hi).1=⟨true,lo,hi,(Ring.new c).1,Table.z⟩:=by unfold aj.new;rw [if_neg (by omega),hs];rfl
 rw [e]
 refine ⟨?_,h3,rfl,h5⟩
 unfold aj.val aj.cnt aj.all aj.dH
 simp [h2,Pz,h4,h3,hs,yA,o6]
theorem rF {u:Setup} (h:u.good=true):(1<=u.slots/\u.slots<=6)/\(1<=u.live/\u.live<=u.slots)/\(1<=u.capacity/\u.capacity<=12)/\(1<=u.dead/\u.dead<=24)/\(0<=u.epoch/\u.epoch<=65536):=by
 unfold Setup.good at h
 simp [bD] at h
 omega
theorem Ij {u:Setup} (h:u.good=true) (i:Nat):vR (nY u i).bM:=by
 obtain ⟨h1,h2,h3,h4,h5⟩:=rF h
 unfold nY
 split
 ·rename_i hi
  refine abS h3 ?_
  have e:(Dir.new u.slots u.live).1.l=(List.range u.live.toNat).map fun i:Nat=>⟨((i:Int)*65536).tdiv u.live,(((i:Int)+1)*65536).tdiv u.live - 1,(i:Int)⟩:=by
   unfold Dir.new;rw [if_neg (by simp;omega)]
  have hi2:i<u.live.toNat:=by omega
  have e2:gS (Dir.new u.slots u.live).1.l i=⟨((i:Int)*65536).tdiv u.live,(((i:Int)+1)*65536).tdiv u.live - 1,(i:Int)⟩:=by
   rw [e];unfold gS;simp [hi2]
  rw [e2]
  exact abQ u.live (by simp;omega) i (by simp;omega) hi
 ·exact abR h3
def hb (u:Setup) (h:u.good=true):HB:=⟨u.slots.toNat,fun i=>(nY u i).bM,⟨u.dead,[]⟩,(Dir.new u.slots u.live).1,u.epoch,u.clock,u.fI,fun i=>⟨by rw [(Ij h i).l],(Ij h i).c⟩⟩
theorem Ik {u:Setup} (h:u.good=true) (i:Nat):vR ((hb u h).sh i):=Ij h i
theorem BK {u:Setup} (h:u.good=true):ai.new u=((hb u h).at fr (bT (hb u h)),0):=by
 have hg:=rF h
 unfold ai.new HB.at hb
 rw [h]
 have e1:(List.range u.slots.toNat).map (nY u)=(List.range u.slots.toNat).map fun i=>(⟨fr i,(nY u i).bM⟩:Slot):=List.map_congr_left fun i _=>by
  unfold nY fr;split<;>rfl
 have e2:List.replicate u.slots.toNat (⟨0,u.epoch,0,0⟩:aG)=(List.range u.slots.toNat).map (bT (hb u h)):=by
  refine List.ext_getElem (by simp) fun i h1 h2=> ?_
  simp [bT,hb]
 simp only [Bool.not_true,Bool.false_eq_true,if_false,e1,e2]
 rfl
theorem abT:∀ c:Int,1<=c/\c<=24->(⟨c,[]⟩:Dead).val=0:=fun c h=>by
 unfold Dead.val qO
 simp [iw,eG,dup,ids]
 omega
theorem BL {u:Setup} (h:u.good=true):(hb u h).ok:=by
 have hg:=rF h
 refine ⟨hg.2.2.2.2.1,hg.2.2.2.2.2,fun i=>(Ik h i).v,fun i e l=> ?_,fun i e l=> ?_,abT _ hg.2.2.2.1⟩
 ·rw [(Ik h i).cn];simp
 ·rw [(Ik h i).cn];simp
theorem abU (l:List Int) (a:Nat):(pK l a).1.good=true:=by
 unfold pK Ig
 simp only
 have s1:=vD l a 1 4
 have s2:=vE l a (lo:=1) (hi:=4) (by omega)
 generalize iq l a 1 4=s at*
 generalize jq l a 1 4=a1
 have c1:=vD l a1 1 5
 have c2:=vE l a1 (lo:=1) (hi:=5) (by omega)
 generalize iq l a1 1 5=c at*
 generalize jq l a1 1 5=a2
 have d1:=vD l a2 1 4
 have d2:=vE l a2 (lo:=1) (hi:=4) (by omega)
 generalize iq l a2 1 4=d at*
 generalize jq l a2 1 4=a3
 have l1:=vD l a3 1 3
 have l2:=vE l a3 (lo:=1) (hi:=3) (by omega)
 generalize iq l a3 1 3=li at*
 generalize jq l a3 1 3=a4
 have v1:=vD l a4 1 s
 have v2:=vE l a4 (lo:=1) (hi:=s) (by omega)
 generalize iq l a4 1 s=lv at*
 generalize jq l a4 1 s=a5
 generalize nN l a5 12=a6
 have x1:=l9 l a6 200
 have x2:=nk l a6 (n:=200) (by omega)
 have y1:=l9 l a6 4
 have y2:=nk l a6 (n:=4) (by omega)
 have z1:=l9 l a6 3
 have z2:=nk l a6 (n:=3) (by omega)
 repeat' split
 all_goals (simp [Setup.good,bD];omega)
def tZ (l:List Int) (a:Nat) (n:Int):List Int×Nat:=
 let x:=nV l a n
 let a1:=nN l a n
 let y:=nV l a1 (n+1)
 let a2:=nN l a1 (n+1)
 let a3:=nN l a2 6
 if nV l a2 6==5 then ([n],a3) else if x==y then ([x],a3) else if nV l a3 2==0 then ([x],nN l a3 2) else ([min x y,max x y],nN l a3 2)
def pM (l:List Int) (n:Nat) (p:Nat):List Int×Nat:=
 if nV l p 2==0 then ([nV l (nN l p 2) n],nN l (nN l p 2) n) else ([],nN l p 2)
theorem Il {q:Nat->List Int×Nat} {c:List Int}:∀ (m:Nat) (k:Int) (a:ai) (s:ah) (p:Nat),eU q c m k a s p->eU q c (m+1) k a s p
 |0,k,a,s,p,h=> .inl h
 |m+1,k,a,s,p,h=>by
  rcases h with h|⟨h1,h2,h3⟩|⟨h1,h2,h3,h4,h5,h6,h7⟩
  ·exact .inl h
  ·exact .inr (.inl ⟨h1,h2,Il m _ _ _ _ h3⟩)
  ·exact .inr (.inr ⟨h1,h2,h3,h4,h5,h6,Il m _ _ _ _ h7⟩)
theorem BM {q:Nat->List Int×Nat} {c:List Int} {m n:Nat} (h:m<=n) {k:Int} {a:ai} {s:ah} {p:Nat} (H:eU q c m k a s p):eU q c n k a s p:=by
 induction h with
 |refl=>exact H
 |step _ ih=>exact Il _ _ _ _ _ ih
theorem abV (l:List Int) {n:Nat} (hn:1<=n) (p:Nat):(pM l n p).1=[]\/∃ j:Nat,j<n/\(pM l n p).1=[(j:Int)]:=by
 unfold pM
 split
 ·refine .inr ⟨(nV l (nN l p 2) n).toNat,?_,?_⟩
  ·have h1:=l9 l (nN l p 2) n
   have h2:=nk l (nN l p 2) (n:=n) (by omega)
   omega
  ·have h1:=l9 l (nN l p 2) n
   simp only [List.cons.injEq,and_true];omega
 ·exact .inl rfl
theorem PD {l:List Nat} (h1:1<=l.length) (h2:l.length<=3) (h:iZ (nI l) (-1)=true):ah.new (nI l) 2=(fO l,0):=by
 have hl:(nI l).length=l.length:=by simp [nI]
 have e:aC.new (nI l)=(⟨nI l,0,0,0,0⟩,0):=by
  unfold aC.new
  rw [h,hl]
  have e1:((l.length:Int)==0)=false:=beq_eq_false_iff_ne.2 (by omega)
  have e2:decide ((3:Int)<(l.length:Int))=false:=decide_eq_false (by omega)
  rw [e1,e2];rfl
 unfold ah.new
 rw [e]
 rfl
def Im (u:Setup) (c:List Int):Prop:=ah.new c 2=((ah.new c 2).1,0)/\1<=c.length/\c.length<=3/\(∀ x ∈ c,0<=x/\x<=u.slots)/\
 ∀ (q:Nat->List Int×Nat) (p:Nat),((q p).1=[]\/∃ j:Nat,j<c.length/\(q p).1=[(j:Int)])->eU q c 40 1 (ai.new u).1 (ah.new c 2).1 p
theorem cells_one {u:Setup} (h:u.good=true) {c:Nat} (hc:(c:Int)<=u.slots):Im u [(c:Int)]:=by
 have hg:=rF h
 have e:ah.new [(c:Int)] 2=(fO [c],0):=PD (l:=[c]) (by simp) (by simp) (by simp [nI,iZ,bD];omega)
 refine ⟨by rw [e],by simp,by simp,fun x hx=>by simp at hx;omega,fun q p hq=> ?_⟩
 rw [BK h,e]
 have hn:(hb u h).n=u.slots.toNat:=rfl
 by_cases hc2:c=(hb u h).n
 ·subst hc2
  exact BM (show 20+20<=40 by omega) (abo (m:=20) (BL h) hq)
 ·exact BM (show 20+20<=40 by omega) (abp (m:=20) (BL h) (by omega) hq)
theorem PE {u:Setup} (h:u.good=true) {c d:Nat} (hc:c<d) (hd:(d:Int)<=u.slots):Im u [(c:Int),(d:Int)]:=by
 have hg:=rF h
 have e:ah.new [(c:Int),(d:Int)] 2=(fO [c,d],0):=PD (l:=[c,d]) (by simp) (by simp) (by simp [nI,iZ,bD];omega)
 refine ⟨by rw [e],by simp,by simp,fun x hx=>by simp at hx;omega,fun q p hq=> ?_⟩
 rw [BK h,e]
 have hn:(hb u h).n=u.slots.toNat:=rfl
 by_cases hc2:d=(hb u h).n
 ·subst hc2
  exact BM (show 18+22<=40 by omega) (abq (m:=18) (BL h) hc hq)
 ·exact BM (show 16+24<=40 by omega) (abr (m:=16) (BL h) hc (by omega) hq)
theorem abW {u:Setup} (h:u.good=true) (l:List Int) (a:Nat):Im u (tZ l a u.slots).1:=by
 have hg:=rF h
 unfold tZ
 simp only
 have h1:=l9 l a u.slots
 have h2:=nk l a (n:=u.slots) (by omega)
 generalize nV l a u.slots=x at h1 h2
 generalize nN l a u.slots=a1
 have h3:=l9 l a1 (u.slots+1)
 have h4:=nk l a1 (n:=u.slots+1) (by omega)
 generalize nV l a1 (u.slots+1)=y at h3 h4
 obtain ⟨i,rfl⟩:=Int.eq_ofNat_of_zero_le h1
 obtain ⟨j,rfl⟩:=Int.eq_ofNat_of_zero_le h3
 obtain ⟨n,hn⟩:=Int.eq_ofNat_of_zero_le (show 0<=u.slots by omega)
 split
 ·rw [hn];exact cells_one h (by omega)
 ·split
  ·exact cells_one h (by omega)
  ·rename_i hne
   simp at hne
   split
   ·exact cells_one h (by omega)
   ·rcases Nat.lt_or_ge i j with hij|hij
    ·rw [show min (i:Int) (j:Int)=i by omega,show max (i:Int) (j:Int)=j by omega]
     exact PE h hij (by omega)
    ·rw [show min (i:Int) (j:Int)=j by omega,show max (i:Int) (j:Int)=i by omega]
     exact PE h (by omega) (by omega)
end Go.Eng
namespace Go.Eng
open Go Go.Proofs
def aj.sm (s:aj):Prop:=s.aL.l.length<=800/\s.aL.heap.length<=800
theorem abX (s:aj) (hs:s.sm):s.all.length<=812:=by
 have:=hs.1;have:=s.ready.yM
 unfold aj.all aj.dH
 simp only [List.length_append,List.length_map];omega
theorem yH {s:aj} (h:s.val=0):s.ready.val=0/\s.aL.val=0:=by
 unfold aj.val at h
 split at h
 ·contradiction
 ·split at h
  ·contradiction
  ·rename_i h1 h2;exact ⟨by simpa using h1,by simpa using h2⟩
attribute [local go_sem] List.length_map
end Go.Eng
namespace Go.Eng
open Go Go.Proofs
theorem BN (t:Table) (id:Int):(t.release id).1.l.length<=t.l.length/\(t.release id).1.heap.length<=t.heap.length:=by
 unfold Table.release
 split
 ·exact ⟨Nat.zero_le _,Nat.zero_le _⟩
 ·split
  ·exact ⟨Nat.zero_le _,Nat.zero_le _⟩
  ·exact ⟨List.length_eraseIdx_le ..,Pv _ _⟩
theorem PG (t:Table) (m:ak) (dl:Int):(t.grant m dl).1.l.length<=t.l.length+1/\(t.grant m dl).1.heap.length<=t.heap.length+1:=by
 unfold Table.grant
 repeat' split
 all_goals first|exact ⟨Nat.zero_le _,Nat.zero_le _⟩|skip
 refine ⟨?_,Pt _ _⟩
 simp;omega
end Go.Eng
