/-
  Part of a proof: lemmas and definitions of this work.
  No condition.
-/
import Derived.Test.YthhjbngoibmpgaaGreatH08
import Derived.Test.YthhjbngoibmpgaaGreatH17
import Derived.Test.YthhjbngoibmpgaaGreatH16
set_option linter.all false
set_option maxRecDepth 100000
set_option maxHeartbeats 8000000
namespace Go.Eng
open Go Go.Proofs
attribute [local go_sem] aY
theorem ace (d:Dir) (hl:d.l.length<=65536):Fn Tryz.prog 124 [.agg d.enc] [] (I d.val) [] []:=by
 generalize hR:d.val=R
 unfold Dir.val at hR
 rw [PV,PZ] at hR
 have h1:=ab7 d.l hl
 generalize tl d.l 0=T at h1 hR
 have h2:=acd d.l d.aM.length hl
 generalize d.l.any (rG d.aM.length)=A at h2 hR
 refine Fn.aB MP (by simp) ?_
 unfold EP SC.mk' Dir.enc
 simp only [aY,go_sem]
 by_cases h0:d.version<1\/1099511627776<d.version\/(d.aM.length:Int)<1\/6<(d.aM.length:Int)
 ·rw [if_pos (by simpa using h0)] at hR
  exact aX
 have g1:decide (d.version<1)=false:=by simp;omega
 have g2:decide (1099511627776<d.version)=false:=by simp;omega
 have g3:decide ((d.aM.length:Int)<1)=false:=by simp;omega
 have g4:decide (6<(d.aM.length:Int))=false:=by simp;omega
 rw [if_neg (by simp [g1,g2,g3,g4])] at hR
 simp only [g1,g2,g3,g4,go_sem]
 refine aS h1 rfl rfl ?_
 cases T with
 |false=>
  simp only [go_sem]
  exact Fin.aQ _ rfl rfl rfl (by rw [<-hR];rfl)
 |true=>
 simp only [if_true] at hR
 simp only [go_sem]
 refine wX h2 [48] [] (Bo A) [[I d.aM.length]] [] (by simp [au,rv,dw,get]) (by simp [gM,au,rv,get]) (by simp [gP]) rfl (by simp [jF,au,rv]) (by simp [jG]) (by simp [rv]) ?_
 cases A with
 |true=>
  simp only [go_sem]
  exact Fin.aQ _ rfl rfl rfl (by rw [<-hR];rfl)
 |false=>
 simp only [Bool.false_eq_true,if_false] at hR
 simp only [List.length_map,go_sem]
 refine go_loop (fun j:{j:Nat // j<=d.l.length/\o9 d (d.l.drop j) j=R}=>⟨2000,[(1,.ptr 8 0),(37,.sl 3 (d.l.map Span.enc)),(38,I d.l.length),(39,I j.1)],[(8,.box [I d.version,.sl 3 (d.l.map Span.enc),.sl 1 (encI d.aM)])]⟩) (fun j=>d.l.length - j.1) ⟨0,by omega,by simpa using hR⟩ (wk [(8,8)] []) ?_
 rintro ⟨j,hj,he⟩ B hB
 simp only [go_sem]
 by_cases e1:j<d.l.length
 ·have e2:decide ((j:Int)<(d.l.length:Int))=true:=by simp;omega
  have hw:=cZ (show j<=100000 by omega)
  have hx:nth (d.l.map Span.enc) j=Span.enc (d.l[j]?.getD Span.z):=fJ Span.enc Span.z e1
  rw [fZ Span.z e1] at he
  simp only [o9] at he
  generalize d.l[j]?.getD Span.z=x at hx he
  have hfi:=Ir d.l x.bM hl
  change Fn _ _ _ _ (I (d.idx x.bM)) _ _ at hfi
  generalize d.idx x.bM=k at hfi he
  simp only [e2,hx,Span.enc,Int.toNat_natCast,List.length_map,go_sem]
  repeat (refine bn ?_)
  refine aS hfi rfl rfl ?_
  by_cases c1:(k !=(j:Int))=true
  ·rw [if_pos c1] at he
   simp only [c1,go_sem]
   exact Fin.aQ _ rfl rfl rfl (by rw [<-he];rfl)
  ·rw [if_neg c1] at he
   simp only [Bool.not_eq_true] at c1
   simp only [c1,hw,go_sem]
   exact hB _ ⟨j+1,by omega,he⟩ (by simp only;omega) (wk [(8,8)] [])
 ·have e2:decide ((j:Int)<(d.l.length:Int))=false:=by simp;omega
  rw [iY (by omega)] at he
  simp only [o9] at he
  rw [PW,PY] at he
  have hf:=ab8 d hl (by omega)
  simp only [Dir.enc] at hf
  simp only [e2,go_sem]
  refine aS hf rfl rfl ?_
  cases e3:ny d d.aM 0<;>cases e4:pQ d d.aM 0<;>rw [e3,e4] at he
  all_goals
   simp only [Bool.and_true,Bool.and_false,Bool.and_self,go_sem]
   exact Fin.aQ _ rfl rfl rfl (by rw [<-he];rfl)
theorem acf (d:Dir) (slot:Int) (hl:d.l.length<=65536):Fn Tryz.prog 68 [.agg d.enc,I slot] [] (.aN [.agg (d.span slot).1.enc,Bo (d.span slot).2]) [] []:=by
 have hv:=ace d hl
 simp only [Dir.enc] at hv
 have hfi:=Ir d.l slot hl
 change Fn _ _ _ _ (I (d.idx slot)) _ _ at hfi
 refine Fn.aB MH (by simp) ?_
 unfold s68 SC.mk' Dir.enc
 simp only [go_sem]
 refine aS hv rfl rfl ?_
 unfold Dir.span
 by_cases h1:d.val≠0
 ·rw [if_pos (.inl h1)]
  have h1':(d.val !=0)=true:=by simpa using h1
  simp only [h1',go_sem]
  exact Fin.bA _ rfl rfl (by simp only [aD,rv,au,Span.enc,go_sem])
 have h1':(d.val !=0)=false:=by simpa using h1
 simp only [h1',go_sem]
 refine aS hfi rfl rfl ?_
 rcases abY d slot with h2|⟨k,h2,h3⟩
 ·rw [if_pos (.inr (by omega))]
  simp only [h2,go_sem]
  exact Fin.bA _ rfl rfl (by simp only [aD,rv,au,Span.enc,go_sem])
 ·have h4:¬ (k:Int)<0:=by omega
  rw [if_neg (by intro h;rcases h with h|h;exact h1 h;omega)]
  have hy:nth (d.l.map Span.enc) k=Span.enc (gS d.l k):=fJ Span.enc Span.z h3
  simp only [h2,h4,hy,Span.enc,Int.toNat_natCast,List.length_map,go_sem]
  repeat (refine bn ?_)
  exact Fin.bA _ rfl rfl (by simp only [aD,rv,au,go_sem])
end Go.Eng
namespace Go.Eng
open Go Go.Proofs
theorem acg (slots live:Int):Fn Tryz.prog 65 [I slots,I live] [] (.aN [.agg (Dir.new slots live).1.enc,I (Dir.new slots live).2]) [] []:=by
 generalize hR:Dir.new slots live=R
 unfold Dir.new at hR
 refine Fn.aB ME (by simp) ?_
 unfold EH SC.mk'
 simp only [go_sem]
 by_cases h0:live<1\/slots<live\/6<slots
 ·rw [if_pos (by simpa using h0)] at hR
  exact aX
 have g1:¬ live<1:=fun h=>h0 (.inl h)
 have g2:¬ slots<live:=fun h=>h0 (.inr (.inl h))
 have g3:¬ 6<slots:=fun h=>h0 (.inr (.inr h))
 rw [if_neg (by simp [g1,g2,g3])] at hR
 generalize hf:(fun i:Nat=>(⟨((i:Int)*65536).tdiv live,(((i:Int)+1)*65536).tdiv live - 1,(i:Int)⟩:Span))=f at hR
 simp only [g1,g2,g3,go_sem]
 refine go_loop (fun j:{j:Nat // (j:Int)<=live}=>⟨2000,[(0,I slots),(1,I live),(4,.ptr 8 0),(6,.ptr 64 0),(21,I live),(22,I j.1)],[(8,.box [I 0,Nl,Nl]),(64,.box [I 1,.own 80 3 0 j.1,Nl]),(80,.row 149 3 (((List.range j.1).map f).map Span.enc))]⟩) (fun j=>live.toNat - j.1) ⟨0,by omega⟩ (wk [(8,8),(64,120)] [80]) ?_
 rintro ⟨j,hj⟩ B hB
 simp only [go_sem]
 by_cases e1:(j:Int)<live
 ·have hw:=cZ (show j<=100000 by omega)
  have v1:IntKind.i64.wrap ((j:Int)*65536)=(j:Int)*65536:=cu (by omega)
  have v2:IntKind.i64.wrap (((j+1:Nat):Int)*65536)=((j:Int)+1)*65536:=by rw [cu (by omega)];omega
  have b1:=PL (a:=(j:Int)*65536) (b:=live) (by omega) (by omega) (by omega)
  have b2:=PL (a:=((j:Int)+1)*65536) (b:=live) (by omega) (by omega) (by omega)
  have v3:IntKind.i64.wrap (((j:Int)*65536).tdiv live)=((j:Int)*65536).tdiv live:=cu (by omega)
  have v4:IntKind.i64.wrap ((((j:Int)+1)*65536).tdiv live)=(((j:Int)+1)*65536).tdiv live:=cu (by omega)
  have v5:IntKind.i64.wrap ((((j:Int)+1)*65536).tdiv live - 1)=(((j:Int)+1)*65536).tdiv live - 1:=cu (by omega)
  have hm:j+1<=maxLen:=Nat.le_trans (show _<=300000 by omega) (by decide)
  have e3:List.take j (((List.range j).map f).map Span.enc)=((List.range j).map f).map Span.enc:=eZ (by simp)
  have e4:((List.range j).map f).map Span.enc++[[I (((j:Int)*65536).tdiv live),I ((((j:Int)+1)*65536).tdiv live - 1),I j]]=((List.range (j+1)).map f).map Span.enc:=by
   rw [List.range_succ,List.map_append,List.map_append,<-hf];rfl
  simp only [e1,hw,v1,v2,v3,v4,v5,e3,e4,List.length_map,List.length_range,go_sem]
  repeat (refine bn ?_)
  exact hB _ ⟨j+1,by omega⟩ (by simp only;omega) (wk [(8,8),(64,64),(80,2144)] [])
 obtain rfl:live=(j:Int):=by omega
 simp only [e1,go_sem]
 clear hB
 rw [Int.toNat_natCast] at hR
 have P5:((List.range j).map f).length=j:=by simp
 generalize (List.range j).map f=L at hR P5
 subst P5
 refine go_loop (fun i:{i:Nat // (i:Int)<=slots}=>⟨3000,[(0,I slots),(4,.ptr 8 0),(6,.ptr 64 0),(43,I slots),(44,I i.1)],[(8,.box [I 0,Nl,Nl]),(64,.box [I 1,.sl 3 (L.map Span.enc),.own 88 1 0 i.1]),(88,.row 3 1 (encI (List.replicate i.1 (-1))))]⟩) (fun i=>slots.toNat - i.1) ⟨0,by omega⟩ (wk [(8,8),(64,64)] [88]) ?_
 rintro ⟨i,hi⟩ B hB
 simp only [go_sem]
 by_cases e1:(i:Int)<slots
 ·have hw:=cZ (show i<=100000 by omega)
  have hm:i+1<=maxLen:=Nat.le_trans (show _<=300000 by omega) (by decide)
  have e3:List.take i (encI (List.replicate i (-1)))=encI (List.replicate i (-1)):=eZ (by simp [encI])
  have e4:encI (List.replicate i (-1))++[[I (-1)]]=encI (List.replicate (i+1) (-1)):=by
   rw [<-PK];simp [encI]
  simp only [e1,hw,e3,e4,aY,List.length_replicate,go_sem]
  repeat (refine bn ?_)
  exact hB _ ⟨i+1,by omega⟩ (by simp only;omega) (wk [(8,8),(64,64),(88,3032)] [])
 ·obtain rfl:slots=(i:Int):=by omega
  rw [Int.toNat_natCast] at hR
  have e3:List.take i (encI (List.replicate i (-1)))=encI (List.replicate i (-1)):=eZ (by simp [encI])
  simp only [e1,go_sem]
  exact Fin.bA _ rfl rfl (by rw [<-hR];simp only [aD,rv,au,get,Dir.enc,e3,aY,List.length_replicate,go_sem];simp)
attribute [local go_sem] ai.enc ah.enc Task.enc Ev.enc bL.enc aC.enc dx.enc Dead.enc Dir.enc aj.enc Walk.enc bI.enc aG.enc eB.enc Setup.enc aY qN oW List.length_map
def rH (a b:Int):Int:=if a<b then -1 else if b<a then 1 else 0
theorem P6 (n:Int):Fn Tryz.prog 436 [I n] [] (Bo false) [] []:=by
 refine Fn.aB ZG (by simp) ?_
 unfold Gt SC.mk'
 simp only [ZK,go_sem]
 exact Fin.aQ _ rfl rfl rfl rfl
theorem P7 (a b:Int):Fn Tryz.prog 411 [I a,I b] [] (I (rH a b)) [] []:=by
 generalize hR:rH a b=R
 unfold rH at hR
 refine Fn.aB Zx (by simp) ?_
 unfold Gh SC.mk'
 simp only [go_sem]
 have eY:=P6 a
 have jg:=P6 b
 exact aX
 all_goals (rw [<-hR];repeat' split)
 all_goals first|rfl|omega
def rJ:List Int->Int
 |[]=>0
 |x::r=>if x≠0 then x else rJ r
theorem pOr (l:List Int) (hl:l.length<=1000):Fn Tryz.prog 435 [.sl 1 (encI l)] [] (I (rJ l)) [] []:=by
 refine Fn.aB ZF (by simp) ?_
 unfold Gs SC.mk'
 simp only [go_sem]
 refine go_loop (fun j:{j:Nat // j<=l.length/\rJ (l.drop j)=rJ l}=>⟨1000,[(3,I 0),(6,.sl 1 (encI l)),(7,I l.length),(8,I j.1)],[]⟩) (fun j=>l.length - j.1) ⟨0,by omega,rfl⟩ (wk [] []) ?_
 rintro ⟨j,hj,he⟩ B hB
 simp only [go_sem]
 by_cases e1:j<l.length
 ·have e2:decide ((j:Int)<(l.length:Int))=true:=by simp;omega
  have hw:=cZ (show j<=100000 by omega)
  have hx:=AY e1
  rw [fZ 0 e1] at he
  simp only [rJ] at he
  generalize l[j]?.getD 0=y at hx he
  simp only [e2,hx,Int.toNat_natCast,aY,go_sem]
  repeat (refine bn ?_)
  by_cases e3:y≠0
  ·have e3':(y !=0)=true:=by simpa using e3
   simp only [e3',go_sem]
   rw [if_pos e3] at he
   exact Fin.aQ _ rfl rfl rfl (by rw [<-he];rfl)
  ·have e3':(y !=0)=false:=by simpa using e3
   rw [if_neg e3] at he
   simp only [e3',hw,go_sem]
   exact hB _ ⟨j+1,by omega,he⟩ (by simp only;omega) (wk [] [])
 ·have e2:decide ((j:Int)<(l.length:Int))=false:=by simp;omega
  rw [iY (by omega)] at he
  simp only [rJ] at he
  simp only [e2,go_sem]
  exact Fin.aQ _ rfl rfl rfl (by rw [<-he];rfl)
def BR (a b:Due):Int:=rJ [rH a.dl b.dl,rH a.id b.id]
theorem aci (a b:Due):decide (BR a b<0)=a.before b:=by
 simp only [BR,rJ,rH,Due.before]
 rcases Int.lt_trichotomy a.dl b.dl with h|h|h
 ·have h1:¬ b.dl<a.dl:=by omega
  simp [h]
 ·rcases Int.lt_trichotomy a.id b.id with g|g|g
  ·simp [h,g]
  ·simp [h,g]
  ·have g1:¬ a.id<b.id:=by omega
   simp [h,g,g1]
 ·have h1:¬ a.dl<b.dl:=by omega
  have h2:¬ a.dl=b.dl:=by omega
  simp [h,h1,h2]
theorem acj (a b:Due):Fn Tryz.prog 408 [.agg a.enc,.agg b.enc] [] (I (BR a b)) [] []:=by
 have ho:=pOr [rH a.dl b.dl,rH a.id b.id] (by simp)
 simp only [encI,List.map_cons,List.map_nil] at ho
 change Fn _ _ _ _ (I (BR a b)) _ _ at ho
 refine Fn.aB Zw (by simp) ?_
 unfold Gg SC.mk' Due.enc
 simp only [go_sem]
 have eY:=P7 a.dl b.dl
 have jg:=P7 a.id b.id
 have hJ:=trivial
 repeat' first
  |(first|refine sC ?_|refine sD ?_|refine sZ ?_|refine sY ?_|refine sF ?_);simp only [hJ,go_sem]
  |(first|refine dQ (fun hq=> ?_) (fun hq=> ?_)|refine jE (fun hq=> ?_) (fun hq=> ?_)|refine je (fun hq=> ?_) (fun hq=> ?_))<;>simp only [hq,hJ,go_sem]
  |refine sM ?_;simp only [aD,rv,au,get,hJ,go_sem]
  |refine bn ?_
  |fail
 all_goals clear eY jg hJ
 done
theorem acn (h:List Due) (i k:Nat) (hi:i<h.length) (hk:k<h.length):Fn Tryz.prog 431 [.sl 2 (h.map Due.enc),I i,I k] [] (Bo ((gD h i).before (gD h k))) [] []:=by
 have hx:nth (h.map Due.enc) i=Due.enc (gD h i):=fJ Due.enc Due.z hi
 have hy:nth (h.map Due.enc) k=Due.enc (gD h k):=fJ Due.enc Due.z hk
 have hc:=acj (gD h i) (gD h k)
 rw [<-aci]
 generalize gD h i=a at hx hc ⊢
 generalize gD h k=b at hy hc ⊢
 refine Fn.aB ZC (by simp) ?_
 unfold Gq SC.mk'
 simp only [hx,hy,Due.enc,Int.toNat_natCast,List.length_map,go_sem]
 repeat (refine bn ?_)
 have hJ:=trivial
 exact aZ
theorem aco (d:Due):Fn Tryz.prog 430 [.agg d.enc] [] (Bo d.sound) [] []:=by
 refine Fn.aB ZB (by simp) ?_
 unfold Gp SC.mk' Due.enc
 simp only [go_sem]
 have hJ:=trivial
 repeat' first
  |(first|refine sC ?_|refine sD ?_);simp only [hJ,go_sem]
  |(first|refine dQ (fun hq=> ?_) (fun hq=> ?_)|refine jE (fun hq=> ?_) (fun hq=> ?_)|refine je (fun hq=> ?_) (fun hq=> ?_))<;>simp only [hq,hJ,go_sem]
  |refine sM ?_;simp only [aD,rv,au,get,hJ,go_sem]
  |refine bn ?_
  |fail
 all_goals clear hJ
 all_goals (simp_all [Due.sound,aD]<;>omega)
theorem P8 (id:Int):∀ (h:List Due) (i:Nat),cB (fun d=>d.id==id) h i=j3 id h i
 |[],i=>rfl
 |d::r,i=>by simp only [cB,j3,P8 id r]
theorem acp (d:Due) (id:Int):Fn Tryz.prog 446 [.agg d.enc,.ptr 0 0] [[I id]] (Bo (d.id==id)) [[I id]] []:=by
 refine Fn.aB ZH (by simp) ?_
 unfold Gv SC.mk' Due.enc
 simp only [go_sem]
 exact Fin.bH _ rfl rfl rfl rfl rfl rfl rfl
theorem acr (h:List Due) (id:Int) (hl:h.length<=10000):Fn Tryz.prog 425 [.sl 2 (h.map Due.enc),I id] [] (I (j3 id h 0)) [] []:=by
 have hi:=Ip (g:=446) Due.enc Due.z Due.dJ Gu (by decide) (by decide) (fun _=>rfl) h (by omega) (fun d=>d.id==id) [I id] rfl (fun d _=>acp d id)
 rw [P8] at hi
 refine Fn.aB Zz (by simp) ?_
 unfold Gm SC.mk'
 simp only [go_sem]
 refine wX hi [8] [] (I (j3 id h 0)) [[I id]] [] (by simp [au,rv,dw,get]) (by simp [gM,au,rv,get]) (by simp [gP]) rfl (by simp [jF,au,rv]) (by simp [jG]) (by simp [rv]) ?_
 simp only [go_sem]
 exact Fin.aQ _ rfl rfl rfl rfl
theorem acs (d:Due):Fn Tryz.prog 429 [.agg d.enc] [] (Bo !d.sound) [] []:=by
 refine Fn.aB ZA (by simp) ?_
 unfold Gn SC.mk' Due.enc
 simp only [go_sem]
 have eY:=aco d
 have hJ:=trivial
 exact aZ
theorem acu (h:List Due) (hl:h.length<=10000):Fn Tryz.prog 428 [.sl 2 (h.map Due.enc),.fn 429 []] [] (Bo (h.any fun d=> !d.sound)) [] []:=by
 rw [<-vS _ h 0]
 exact Iq (by decide) N9 (by decide) rfl rfl (ab3 (g:=429) Due.enc Due.z Due.dJ Gu (by decide) (by decide) (fun _=>rfl) h (by omega) (fun d=> !d.sound) (fun d _=>acs d))
theorem Iu (h:List Due):∀ l:List Due,Ba h l=if l.any (fun d=> !d.sound) then 1 else qR h h 0
 |[]=>rfl
 |d::r=>by
  simp only [Ba,List.any_cons,Iu h r]
  by_cases hs:d.sound=true
  ·simp [hs]
  ·simp [hs]
theorem acv (h:List Due) (hl:h.length<=10000):Fn Tryz.prog 405 [.sl 2 (h.map Due.enc)] [] (I (iA h)) [] []:=by
 generalize hR:iA h=R
 unfold iA at hR
 rw [Iu] at hR
 have hc:=acu h hl
 by_cases c1:(12:Int)<h.length
 ·rw [if_pos c1] at hR
  have c1':decide ((12:Int)<(h.length:Int))=true:=by simpa using c1
  refine Fn.aB AU (by simp) ?_
  unfold xW SC.mk'
  simp only [List.length_map,c1',go_sem]
  exact Fin.aQ _ rfl rfl rfl (by rw [<-hR];rfl)
 rw [if_neg c1] at hR
 have c1':decide ((12:Int)<(h.length:Int))=false:=by simpa using c1
 generalize h.any (fun d=> !d.sound)=any at hR hc
 cases any with
 |true=>
  simp only [if_true] at hR
  refine Fn.aB AU (by simp) ?_
  unfold xW SC.mk'
  simp only [List.length_map,c1',go_sem]
  refine aS hc rfl rfl ?_
  simp only [go_sem]
  exact Fin.aQ _ rfl rfl rfl (by rw [<-hR];rfl)
 |false=>
  simp only [Bool.false_eq_true,if_false] at hR
  refine Fn.aB AU (by simp) ?_
  unfold xW SC.mk'
  simp only [List.length_map,c1',go_sem]
  refine aS hc rfl rfl ?_
  simp only [List.length_map,go_sem]
  refine go_loop (fun j:{j:Nat // j<=h.length/\qR h (h.drop j) j=R}=>⟨1000,[(0,.sl 2 (h.map Due.enc)),(11,.sl 2 (h.map Due.enc)),(12,I h.length),(13,I j.1)],[]⟩) (fun j=>h.length - j.1) ⟨0,by omega,by simpa using hR⟩ (wk [] []) ?_
  rintro ⟨j,hj,he⟩ B hB
  simp only [go_sem]
  by_cases e1:j<h.length
  ·have e2:decide ((j:Int)<(h.length:Int))=true:=by simp;omega
   have hw:=cZ (show j<=100000 by omega)
   have hx:nth (h.map Due.enc) j=Due.enc (h[j]?.getD Due.z):=fJ Due.enc Due.z e1
   rw [fZ Due.z e1] at he
   simp only [qR] at he
   generalize h[j]?.getD Due.z=d at hx he
   simp only [e2,hx,Due.enc,Int.toNat_natCast,List.length_map,go_sem]
   repeat (refine bn ?_)
   refine aS (acr h d.id hl) rfl rfl ?_
   by_cases e3:(j3 d.id h 0 !=(j:Int))=true
   ·rw [if_pos e3] at he
    simp only [e3,go_sem]
    exact Fin.aQ _ rfl rfl rfl (by rw [<-he];rfl)
   ·rw [if_neg e3] at he
    simp only [Bool.not_eq_true] at e3
    simp only [e3,hw,go_sem]
    exact hB _ ⟨j+1,by omega,he⟩ (by simp only;omega) (wk [] [])
  ·have e2:decide ((j:Int)<(h.length:Int))=false:=by simp;omega
   rw [iY (by omega)] at he
   simp only [qR] at he
   clear hB
   simp only [e2,go_sem]
   refine go_loop (fun j:{j:Nat // 1<=j/\j<=h.length+1/\yt h (h.drop j) j=R}=>⟨2000,[(0,.sl 2 (h.map Due.enc)),(5,I j.1)],[]⟩) (fun j=>h.length+1 - j.1) ⟨1,by omega,by omega,he⟩ (wk [] []) ?_
   rintro ⟨j,hj1,hj,he⟩ B hB
   simp only [List.length_map,go_sem]
   by_cases e1:j<h.length
   ·have e2:decide ((j:Int)<(h.length:Int))=true:=by simp;omega
    have hw:=cZ (show j<=100000 by omega)
    have hh:=half hj1 (show j<=100000 by omega)
    have hb:=acn h j ((j - 1) / 2) e1 (by omega)
    have hg:gD h j=h[j]?.getD Due.z:=rfl
    rw [fZ Due.z e1,<-hg] at he
    simp only [yt] at he
    simp only [e2,hh,go_sem]
    repeat (refine bn ?_)
    refine aS hb rfl rfl ?_
    by_cases e3:(gD h j).before (gD h ((j - 1) / 2))=true
    ·rw [if_pos e3] at he
     simp only [e3,go_sem]
     exact Fin.aQ _ rfl rfl rfl (by rw [<-he];rfl)
    ·rw [if_neg e3] at he
     simp only [Bool.not_eq_true] at e3
     simp only [e3,hw,go_sem]
     exact hB _ ⟨j+1,by omega,by omega,he⟩ (by simp only;omega) (wk [] [])
   ·have e2:decide ((j:Int)<(h.length:Int))=false:=by simp;omega
    rw [iY (by omega)] at he
    simp only [yt] at he
    simp only [e2,go_sem]
    exact Fin.aQ _ rfl rfl rfl (by rw [<-he];rfl)
end Go.Eng
namespace Go.Eng
open Go Go.Proofs
def lq (d y:Due):Bool:=(d.dl==y.dl)&&((d.id==y.id)&&true)
theorem P9 {d y:Due}:lq d y=true↔d=y:=by
 obtain ⟨a,b⟩:=d;obtain ⟨c,e⟩:=y
 simp [lq]
theorem acw (a b:Due):gu [0,0] a.enc b.enc=some (lq a b):=by
 simp only [gu,Due.enc,if_true,lq]
theorem acy (h:List Due) (d:Due) (hl:h.length<=10000):Fn Tryz.prog 448 [.sl 2 (h.map Due.enc),.agg d.enc] [] (I (cB (lq d) h 0)) [] []:=by
 have hde:d.enc=[I d.dl,I d.id]:=rfl
 refine Fn.aB ZI (by simp) ?_
 unfold Gw SC.mk'
 simp only [hde,go_sem]
 refine go_loop (fun j:{j:Nat // j<=h.length/\cB (lq d) (h.drop j) j=cB (lq d) h 0}=>⟨1000,[(0,.sl 2 (h.map Due.enc)),(3,.ptr 8 0),(7,I h.length),(8,I j.1)],[(8,.box d.enc)]⟩) (fun j=>h.length - j.1) ⟨0,by omega,rfl⟩ (Wk.mk [(8,8)] [] rfl rfl (by simp only [bq,aR,au,rv,Due.enc,go_sem]<;>try simp) trivial (by simp only [bQ,rv,au,go_sem]<;>try simp)) ?_
 rintro ⟨j,hj,he⟩ B hB
 simp only [go_sem]
 by_cases e1:j<h.length
 ·have e2:decide ((j:Int)<(h.length:Int))=true:=by simp;omega
  have hw:=cZ (show j<=100000 by omega)
  have hx:nth (h.map Due.enc) j=Due.enc (h[j]?.getD Due.z):=fJ Due.enc Due.z e1
  rw [fZ Due.z e1] at he
  simp only [cB] at he
  generalize h[j]?.getD Due.z=y at hx he
  have BS:=acw d y
  simp only [Due.enc] at BS
  simp only [e2,hx,BS,Due.enc,Int.toNat_natCast,List.length_map,go_sem]
  repeat (refine bn ?_)
  by_cases e3:lq d y=true
  ·rw [if_pos e3] at he
   simp only [e3,go_sem]
   exact Fin.aQ _ rfl rfl rfl (by rw [<-he];rfl)
  ·rw [if_neg e3] at he
   simp only [Bool.not_eq_true] at e3
   simp only [e3,hw,go_sem]
   exact hB _ ⟨j+1,by omega,he⟩ (by simp only;omega) (Wk.mk [(8,8)] [] rfl rfl (by simp only [bq,aR,au,rv,Due.enc,go_sem]<;>try simp) trivial (by simp only [bQ,rv,au,go_sem]<;>try simp))
 ·have e2:decide ((j:Int)<(h.length:Int))=false:=by simp;omega
  rw [iY (by omega)] at he
  simp only [cB] at he
  simp only [e2,go_sem]
  exact Fin.aQ _ rfl rfl rfl (by rw [<-he];rfl)
theorem acz (h:List Due) (d:Due) (hl:h.length<=10000):Fn Tryz.prog 432 [.sl 2 (h.map Due.enc),.agg d.enc] [] (Bo (h.any (lq d))) [] []:=by
 rw [<-vS _ h 0]
 have hi:=acy h d hl
 generalize cB (lq d) h 0=k at hi ⊢
 have hde:d.enc=[I d.dl,I d.id]:=rfl
 refine Fn.aB ZE (by simp) ?_
 unfold Gr SC.mk'
 simp only [hde,go_sem]
 refine aS hi rfl rfl ?_
 simp only [go_sem]
 exact Fin.aQ _ rfl rfl rfl rfl
theorem Qa (n:Int):Fn Tryz.prog 404 [I n] [] (Bo (decide (0<=n)&&decide (n<=1073741824))) [] []:=by
 refine Fn.aB Zv (by simp) ?_
 unfold Gd SC.mk'
 simp only [go_sem]
 have hJ:=trivial
 repeat' first
  |(first|refine sC ?_|refine sD ?_);simp only [hJ,go_sem]
  |(first|refine dQ (fun hq=> ?_) (fun hq=> ?_)|refine jE (fun hq=> ?_) (fun hq=> ?_)|refine je (fun hq=> ?_) (fun hq=> ?_))<;>simp only [hq,hJ,go_sem]
  |refine sM ?_;simp only [aD,rv,au,get,hJ,go_sem]
  |refine bn ?_
  |fail
 all_goals clear hJ
 all_goals (simp_all [aD]<;>omega)
def mr (t:Table):Bool:=(t.heap.length==t.l.length)&&t.l.all fun x=>t.heap.any (lq ⟨x.dl,x.msg.id⟩)
theorem acA (t:Table) (h1:t.l.length<=10000) (h2:t.heap.length<=10000):Fn Tryz.prog 406 [.agg t.enc] [] (Bo (mr t)) [] []:=by
 generalize hR:mr t=R
 unfold mr at hR
 by_cases c1:t.heap.length=t.l.length
 ·have c1':((t.heap.length:Int) !=(t.l.length:Int))=false:=by simp [c1]
  rw [show (t.heap.length==t.l.length)=true by simpa using c1,Bool.true_and] at hR
  refine Fn.aB Gf (by simp) ?_
  unfold AX SC.mk' Table.enc
  simp only [c1',List.length_map,go_sem]
  refine go_loop (fun j:{j:Nat // j<=t.l.length/\((t.l.drop j).all fun x=>t.heap.any (lq ⟨x.dl,x.msg.id⟩))=R}=>⟨1000,[(1,.ptr 8 0),(13,.sl 8 (t.l.map Lease.enc)),(14,I t.l.length),(15,I j.1)],[(8,.box t.enc)]⟩) (fun j=>t.l.length - j.1) ⟨0,by omega,by simpa using hR⟩ (Wk.mk [(8,8)] [] rfl rfl (by simp only [bq,aR,au,rv,Table.enc,go_sem]<;>try simp) trivial (by simp only [bQ,rv,au,go_sem]<;>try simp)) ?_
  rintro ⟨j,hj,he⟩ B hB
  simp only [Table.enc,go_sem]
  by_cases e1:j<t.l.length
  ·have e2:decide ((j:Int)<(t.l.length:Int))=true:=by simp;omega
   have hw:=cZ (show j<=100000 by omega)
   have hx:nth (t.l.map Lease.enc) j=Lease.enc (t.l[j]?.getD Lease.z):=fJ Lease.enc Lease.z e1
   rw [fZ Lease.z e1,List.all_cons] at he
   generalize t.l[j]?.getD Lease.z=x at hx he
   have hc:=acz t.heap ⟨x.dl,x.msg.id⟩ h2
   generalize t.heap.any (lq ⟨x.dl,x.msg.id⟩)=b at he hc
   simp only [e2,hx,Lease.enc,Int.toNat_natCast,List.length_map,go_sem]
   repeat (refine bn ?_)
   refine aS hc rfl rfl ?_
   cases b with
   |false=>
    simp only [go_sem]
    exact Fin.aQ _ rfl rfl rfl (by rw [<-he];rfl)
   |true=>
    simp only [hw,go_sem]
    exact hB _ ⟨j+1,by omega,by simpa using he⟩ (by simp only;omega) (Wk.mk [(8,8)] [] rfl rfl (by simp only [bq,aR,au,rv,Table.enc,go_sem]<;>try simp) trivial (by simp only [bQ,rv,au,go_sem]<;>try simp))
  ·have e2:decide ((j:Int)<(t.l.length:Int))=false:=by simp;omega
   rw [iY (by omega)] at he
   simp only [List.all_nil] at he
   simp only [e2,go_sem]
   exact Fin.aQ _ rfl rfl rfl (by rw [<-he];rfl)
 ·have c1':((t.heap.length:Int) !=(t.l.length:Int))=true:=by simp;omega
  rw [show (t.heap.length==t.l.length)=false by simpa using c1,Bool.false_and] at hR
  refine Fn.aB Gf (by simp) ?_
  unfold AX SC.mk' Table.enc
  simp only [c1',List.length_map,go_sem]
  exact Fin.aQ _ rfl rfl rfl (by rw [<-hR];rfl)
theorem Iw {β:Type} [DecidableEq β]:∀ (A B:List β),A.Nodup->(∀ a ∈ A,a ∈ B)->B.length<=A.length->∀ b ∈ B,b ∈ A
 |[],B,_,_,hl=>by
  have:B=[]:=by simpa using hl
  subst this;simp
 |a::A,B,hn,hs,hl=>by
  intro b hb
  obtain ⟨h1,h2⟩:=List.nodup_cons.1 hn
  by_cases e:b=a
  ·simp [e]
  ·have ha:a ∈ B:=hs a (by simp)
   have hlen:=List.length_erase_of_mem ha
   have ih:=Iw A (B.erase a) h2 (fun x hx=>by
    have hxa:x≠a:=fun h=>h1 (h▸hx)
    exact (List.mem_erase_of_ne hxa).2 (hs x (by simp [hx]))) (by simp at hl;omega)
   exact List.mem_cons_of_mem _ (ih b ((List.mem_erase_of_ne e).2 hb))
def jk (t:Table):List Lease->Nat->Int
 |[],_=>0
 |x::r,i=>if x.msg.val !=0 then x.msg.val else if x.msg.gen==0 then 7 else if decide (x.dl<0)||decide (1073741824<x.dl) then 1
  else if 0<i/\x.msg.id<=(gL t.l (i - 1)).msg.id then 11 else jk t r (i+1)
theorem Qb (t:Table):∀ (l:List Lease) (i:Nat),qU t l i=if jk t l i≠0 then jk t l i else if iA t.heap !=0 then iA t.heap else if t.heap.length≠t.l.length then 7 else j4 t t.heap
 |[],i=>by simp [qU,jk]
 |x::r,i=>by
  simp only [qU,jk]
  split
  ·rename_i h;have:x.msg.val≠0:=by simpa using h
   simp [this]
  split
  ·simp
  split
  ·simp
  split
  ·simp
  ·exact Qb t r (i+1)
theorem Iy (t:Table):∀ (l:List Lease) (i:Nat),l=t.l.drop i->jk t l i=0->∀ k,i<=k->0<k->k<t.l.length->(gL t.l (k - 1)).msg.id<(gL t.l k).msg.id
 |[],i,hd,_,k,h1,_,h3=>by
  have:=congrArg List.length hd
  simp at this
  omega
 |x::r,i,hd,h,k,h1,h2,h3=>by
  have hi:i<t.l.length:=by
   have:=congrArg List.length hd
   simp at this
   omega
  have hx:x=gL t.l i/\r=t.l.drop (i+1):=by
   rw [fZ Lease.z hi] at hd
   cases hd
   exact ⟨rfl,rfl⟩
  simp only [jk] at h
  split at h
  ·rename_i h0;simp at h0;exact absurd h h0
  split at h
  ·cases h
  split at h
  ·cases h
  split at h
  ·cases h
  rename_i h4
  by_cases e:k=i
  ·subst e
   rw [hx.1] at h4
   omega
  ·exact Iy t r (i+1) hx.2 h k (by omega) h2 h3
theorem Iz (t:Table) (h:jk t t.l 0=0):∀ (d j:Nat),j+d+1<t.l.length->(gL t.l j).msg.id<(gL t.l (j+d+1)).msg.id
 |0,j,hl=>by
  have:=Iy t t.l 0 (by simp) h (j+1) (by omega) (by omega) hl
  simpa using this
 |d+1,j,hl=>by
  have h1:=Iz t h d j (by omega)
  have h2:=Iy t t.l 0 (by simp) h (j+(d+1)+1) (by omega) (by omega) hl
  have e:j+(d+1)+1 - 1=j+d+1:=by omega
  rw [e] at h2
  exact Int.lt_trans h1 h2
theorem Qc (t:Table) (h:jk t t.l 0=0) {i j:Nat} (hi:i<t.l.length) (hj:j<t.l.length) (e:(gL t.l i).msg.id=(gL t.l j).msg.id):i=j:=by
 rcases Nat.lt_trichotomy i j with g|g|g
 ·obtain ⟨d,rfl⟩:∃ d,j=i+d+1:=⟨j - i - 1,by omega⟩
  have:=Iz t h d i hj
  omega
 ·exact g
 ·obtain ⟨d,rfl⟩:∃ d,i=j+d+1:=⟨i - j - 1,by omega⟩
  have:=Iz t h d j hi
  omega
theorem IA (h:List Due):∀ (l:List Due) (i:Nat),l=h.drop i->qR h l i=0->∀ k,i<=k->k<h.length->j3 (gD h k).id h 0=k
 |[],i,hd,_,k,h1,h3=>by
  have:=congrArg List.length hd
  simp at this
  omega
 |d::r,i,hd,e,k,h1,h3=>by
  have hi:i<h.length:=by
   have:=congrArg List.length hd
   simp at this
   omega
  have hx:d=gD h i/\r=h.drop (i+1):=by
   rw [fZ Due.z hi] at hd
   cases hd
   exact ⟨rfl,rfl⟩
  simp only [qR] at e
  split at e
  ·cases e
  ·rename_i h4
   by_cases ek:k=i
   ·subst ek
    rw [hx.1] at h4
    simpa using h4
   ·exact IA h r (i+1) hx.2 e k (by omega) h3
theorem acB {h:List Due} (e:iA h=0) {i j:Nat} (hi:i<h.length) (hj:j<h.length) (g:(gD h i).id=(gD h j).id):i=j:=by
 unfold iA at e
 split at e
 ·cases e
 rw [Iu] at e
 split at e
 ·cases e
 have h1:=IA h h 0 (by simp) e i (by omega) hi
 have h2:=IA h h 0 (by simp) e j (by omega) hj
 rw [g,h2] at h1
 omega
theorem BU {α β:Type} (f:α->β) (z:α):∀ (l:List α),(∀ i j,i<l.length->j<l.length->f (l[i]?.getD z)=f (l[j]?.getD z)->i=j)->(l.map f).Nodup
 |[],_=>by simp
 |x::r,h=>by
  rw [List.map_cons,List.nodup_cons]
  refine ⟨fun hm=> ?_,BU f z r fun i j hi hj e=> ?_⟩
  ·obtain ⟨y,hy,e⟩:=List.mem_map.1 hm
   obtain ⟨k,hk,e2⟩:=List.mem_iff_getElem.1 hy
   have:=h 0 (k+1) (by simp) (by simpa using hk) (by simp [hk,e2,e])
   omega
  ·have:=h (i+1) (j+1) (by simpa using hi) (by simpa using hj) (by simpa using e)
   omega
theorem IB (id:Int):∀ (l:List Lease) (i:Nat),(∃ k,k<l.length/\(gL l k).msg.id=id/\yx id l i=((i+k:Nat):Int))\/(yx id l i= -1/\∀ x ∈ l,x.msg.id≠id)
 |[],i=> .inr ⟨rfl,by simp⟩
 |x::r,i=>by
  simp only [yx]
  by_cases e:x.msg.id=id
  ·left
   refine ⟨0,by simp,by simpa [gL] using e,by simp [e]⟩
  ·rw [if_neg (by simpa using e)]
   rcases IB id r (i+1) with ⟨k,h1,h2,h3⟩|⟨h1,h2⟩
   ·exact .inl ⟨k+1,by simpa using h1,by simpa [gL] using h2,by rw [h3];omega⟩
   ·refine .inr ⟨h1,fun y hy=> ?_⟩
    rcases List.mem_cons.1 hy with rfl|hy
    ·exact e
    ·exact h2 y hy
theorem Qd (t:Table):∀ l:List Due,j4 t l=0\/j4 t l=7
 |[]=> .inl rfl
 |d::r=>by
  simp only [j4]
  split
  ·exact .inr rfl
  split
  ·exact .inr rfl
  ·exact Qd t r
theorem Qe (t:Table):∀ l:List Due,j4 t l=0↔∀ d ∈ l,0<=t.find d.id/\(gL t.l (t.find d.id).toNat).dl=d.dl
 |[]=>by simp [j4]
 |d::r=>by
  simp only [j4,List.mem_cons,forall_eq_or_imp]
  split
  ·rename_i h
   constructor
   ·intro h2;cases h2
   ·intro h2;omega
  split
  ·rename_i h1 h2
   have h2:(gL t.l (t.find d.id).toNat).dl≠d.dl:=by simpa using h2
   constructor
   ·intro h;cases h
   ·intro h;exact absurd h.1.2 h2
  ·rename_i h1 h2
   have h2:(gL t.l (t.find d.id).toNat).dl=d.dl:=by simpa using h2
   rw [Qe t r]
   exact ⟨fun h=>⟨⟨by omega,h2⟩,h⟩,fun h=>h.2⟩
theorem acC (t:Table) (h1:jk t t.l 0=0) (h2:iA t.heap=0):(if t.heap.length≠t.l.length then (7:Int) else j4 t t.heap)=if mr t then 0 else 7:=by
 by_cases e:t.heap.length=t.l.length
 ·rw [if_neg (by simpa using e)]
  have hA:(t.heap.map fun d=>(d.dl,d.id)).Nodup:=BU _ Due.z _ fun i j hi hj g=>acB h2 hi hj (Prod.mk.inj g).2
  have hB:(t.l.map fun x=>(x.dl,x.msg.id)).Nodup:=BU _ Lease.z _ fun i j hi hj g=>Qc t h1 hi hj (Prod.mk.inj g).2
  have k1:j4 t t.heap=0↔∀ a ∈ t.heap.map (fun d=>(d.dl,d.id)),a ∈ t.l.map fun x=>(x.dl,x.msg.id):=by
   rw [Qe]
   constructor
   ·intro h a ha
    obtain ⟨d,hd,rfl⟩:=List.mem_map.1 ha
    obtain ⟨g1,g2⟩:=h d hd
    rcases IB d.id t.l 0 with ⟨k,a1,a2,a3⟩|⟨a1,_⟩
    ·have hf:t.find d.id=(k:Int):=by unfold Table.find;rw [a3];simp
     rw [hf,Int.toNat_natCast] at g2
     refine List.mem_map.2 ⟨gL t.l k,?_,?_⟩
     ·unfold gL;rw [List.getElem?_eq_getElem a1];exact List.getElem_mem _
     ·rw [g2,a2]
    ·unfold Table.find at g1;rw [a1] at g1;omega
   ·intro h d hd
    obtain ⟨x,hx,hxe⟩:=List.mem_map.1 (h _ (List.mem_map.2 ⟨d,hd,rfl⟩))
    have hdl:=(Prod.mk.inj hxe).1
    have hid:=(Prod.mk.inj hxe).2
    rcases IB d.id t.l 0 with ⟨k,a1,a2,a3⟩|⟨_,a2⟩
    ·have hf:t.find d.id=(k:Int):=by unfold Table.find;rw [a3];simp
     rw [hf,Int.toNat_natCast]
     obtain ⟨j,hj,CZ⟩:=List.mem_iff_getElem.1 hx
     have hgj:gL t.l j=x:=by unfold gL;rw [List.getElem?_eq_getElem hj];exact CZ
     have:k=j:=Qc t h1 a1 hj (by rw [a2,hgj];exact hid.symm)
     rw [this,hgj]
     exact ⟨by omega,hdl⟩
    ·exact absurd hid (a2 x hx)
  have k2:mr t=true↔∀ b ∈ t.l.map (fun x=>(x.dl,x.msg.id)),b ∈ t.heap.map fun d=>(d.dl,d.id):=by
   unfold mr
   rw [show (t.heap.length==t.l.length)=true by simpa using e,Bool.true_and,List.all_eq_true]
   constructor
   ·intro h b hb
    obtain ⟨x,hx,rfl⟩:=List.mem_map.1 hb
    obtain ⟨d,hd,g⟩:=List.any_eq_true.1 (h x hx)
    have:=P9.1 g
    exact List.mem_map.2 ⟨d,hd,by rw [<-this]⟩
   ·intro h x hx
    obtain ⟨d,hd,g⟩:=List.mem_map.1 (h _ (List.mem_map.2 ⟨x,hx,rfl⟩))
    refine List.any_eq_true.2 ⟨d,hd,P9.2 ?_⟩
    obtain ⟨a,b⟩:=d
    have g1:=(Prod.mk.inj g).1
    have g2:=(Prod.mk.inj g).2
    simp only at g1 g2
    rw [g1,g2]
  have k3:j4 t t.heap=0↔mr t=true:=by
   rw [k1,k2]
   exact ⟨fun h=>Iw _ _ hA h (by simp [e]),fun h=>Iw _ _ hB h (by simp [e])⟩
  by_cases c:mr t=true
  ·rw [if_pos c];exact k3.2 c
  ·rw [if_neg c]
   rcases Qd t t.heap with h|h
   ·exact absurd (k3.1 h) c
   ·exact h
 ·rw [if_pos (by simpa using e)]
  have:mr t=false:=by unfold mr;simp [e]
  rw [this];rfl
theorem Table.acD (t:Table):t.val=if (12:Int)<t.l.length then 2 else if jk t t.l 0≠0 then jk t t.l 0 else if iA t.heap !=0 then iA t.heap else if mr t then 0 else 7:=by
 unfold Table.val
 split
 ·rfl
 rw [Qb]
 split
 ·rfl
 ·rename_i h
  split
  ·rfl
  ·rename_i g
   exact acC t (Decidable.not_not.1 h) (by simpa using g)
end Go.Eng
