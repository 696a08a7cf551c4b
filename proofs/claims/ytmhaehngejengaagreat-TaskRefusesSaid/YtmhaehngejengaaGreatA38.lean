/-
  Part of a proof: lemmas and definitions of this work.
  No condition.
-/
import Derived.Test.YtmhaehngejengaaGreatA12
import Derived.Test.YtmhaehngejengaaGreatT17
import Derived.Test.YtmhaehngejengaaGreatA28
set_option linter.all false
set_option maxRecDepth 100000
set_option maxHeartbeats 8000000
namespace Go.Eng
open Go Go.Proofs
attribute [local go_sem] ak.enc ax.enc Task.enc Ev.enc bG.enc bf.enc dG.enc Dead.enc Dir.enc aj.enc Walk.enc aV.enc aH.enc bT.enc Setup.enc aS fD fE List.length_map
theorem adz (w:aK) (i:bV) (hl:w.tasks.length≤1000):Fn Tryz.prog 57 [.agg w.enc,.agg i.enc] [] (.aF [.agg (w.invoke i).1.enc,I (w.invoke i).2.1,I (w.invoke i).2.2]) [] []:=by
 generalize hR:w.invoke i=R
 unfold aK.invoke at hR
 simp only at hR
 have ho:=Yd w hl
 have mx:∀ j:Nat,j≤10000→j≤maxLen:=fun j h=>Nat.le_trans h (by decide)
 have m1:=mx w.tasks.length (by omega)
 have m2:=mx (w.tasks.length+1) (by omega)
 clear mx
 have hw:=bH (n:=(w.tasks.length:Int)+1) (by omega)
 have hs:=ap3 ((w.tasks.length:Int)+1) i w.setup w.steps
 have hoL:w.opn.length≤w.tasks.length:=Xb _ _
 generalize w.opn=o at hR ho hoL
 generalize Task.start ((w.tasks.length:Int)+1) i w.setup w.steps=x at hR hs
 refine Fn.aT bY aii (by simp) ?_
 unfold Rx SC.mk' aK.enc bV.enc
 simp only [go_sem]
 have hJ:=ah hw (ah m1 m2)
 repeat' first
  |(first|refine sC ?_|refine sD ?_|refine sZ ?_|refine sY ?_|refine sF ?_);simp only [hJ,Setup.enc,bV.enc,aK.enc,go_sem]
  |(first|refine bF (fun hq=> ?_) (fun hq=> ?_)|refine dY (fun hq=> ?_) (fun hq=> ?_)|refine dL (fun hq=> ?_) (fun hq=> ?_))<;>simp only [hq,hJ,Setup.enc,bV.enc,aK.enc,go_sem]
  |refine sM ?_;simp only [ay,rv,au,get,hJ,Setup.enc,bV.enc,aK.enc,go_sem]
  |refine bn ?_
  |fail
 all_goals clear hJ
 all_goals clear ho hs hoL m1 m2 hw
 all_goals (subst hR;first|rfl|simp_all [rv,au,get,aK.enc,ax.enter,ak.enc,ax.enc,Task.enc,Ev.enc,bG.enc,bf.enc,dG.enc,Dead.enc,Dir.enc,aj.enc,Walk.enc,aV.enc,aH.enc,-Int.not_lt,-Int.not_le]<;>try rfl)
theorem aqk (w:aK) (i:Nat) (hi:i<w.tasks.length) (hd:(gT w.tasks i).dn=false) {n m:Nat} (h:w.wf n m) (hl:w.aW) (hm:m≤1000000):Fn Tryz.prog 111 [.agg w.enc,I i] [] (.aF [.agg (w.step i).1.enc,I (w.step i).2]) [] []:=by
 generalize hR:w.step i=R
 unfold aK.step at hR
 simp only at hR
 have hmem:=Xc hi
 have hwf:=(h.tk _ hmem).resolve_left (by simp [hd])
 have oZ:=(hl.tk _ hmem).resolve_left (by simp [hd])
 have hst:=ap0 w.arena (gT w.tasks i) (IntKind.i64.wrap (w.steps+1)) h.ar hl.ar hwf oZ hd
 have hrs:=aqj w.arena (gT w.tasks i) (IntKind.i64.wrap (w.steps+1))
 have hok:=fun e=>ab4 (k:=IntKind.i64.wrap (w.steps+1)) h.ar hwf hd e
 have hx:nth (w.tasks.map Task.enc) i=Task.enc (gT w.tasks i):=bZ Task.enc Task.z hi
 have htl:=h.tl
 have hlg:=h.lg
 have hhl:=h.hl
 have hre:=oZ.re
 have hen:=oZ.en
 have he6:=oZ.e6
 generalize gT w.tasks i=t at hR hst hrs hok hx hre hen he6
 generalize hs:IntKind.i64.wrap (w.steps+1)=sn at hR hst hrs hok
 generalize fK w.arena t sn=x at hR hst hrs hok
 have mx:∀ j:Nat,j≤10000000→j≤maxLen:=fun j h=>Nat.le_trans h (by decide)
 by_cases e:x.2.2.2≠0
 ·rw [if_pos e] at hR
  have e':(x.2.2.2 !=0)=true:=by simpa using e
  subst hR
  refine Fn.aT bY aaM (by simp) ?_
  unfold Nw SC.mk' aK.enc
  simp only [hx,hs,Task.enc,Int.toNat_natCast,List.length_map,go_sem]
  repeat (refine bn ?_)
  have hJ:=ah e' hs
  exact aZ
 ·rw [if_neg e] at hR
  have e':(x.2.2.2 !=0)=false:=by simpa using e
  have hev:=(hok (Decidable.not_not.1 e)).ev
  have hrk:=(hok (Decidable.not_not.1 e)).rs
  have m1:=mx w.tasks.length (by omega)
  have m2:=mx w.log.length (by omega)
  have m3:=mx (w.log.length+x.2.2.1.length) (by omega)
  have m4:∀ j,j≤6→w.handles.length+j≤maxLen:=fun j hj=>mx _ (by omega)
  have hrl:x.2.1.results.length≤7:=by omega
  refine Fn.aT bY aaM (by simp) ?_
  unfold Nw SC.mk' aK.enc
  simp only [hx,hs,Task.enc,Int.toNat_natCast,List.length_map,go_sem]
  repeat (refine bn ?_)
  have hJ:=ah e' (ah hs (ah hx (ah m1 (ah m2 m3))))
  repeat' first
   |(first|refine sC ?_|refine sD ?_|refine sZ ?_|refine sY ?_|refine sF ?_);simp only [hJ,Task.enc,ak.enc,go_sem]
   |(first|refine bF (fun hq=> ?_) (fun hq=> ?_)|refine dY (fun hq=> ?_) (fun hq=> ?_)|refine dL (fun hq=> ?_) (fun hq=> ?_))<;>simp only [hq,hJ,Task.enc,ak.enc,go_sem]
   |refine sM ?_;simp only [ay,rv,au,get,hJ,Task.enc,ak.enc,go_sem]
   |refine bn ?_
   |fail
  all_goals clear hJ
  generalize hH:w.handles++((x.2.1.results.drop t.results.length).map aV.tokens).flatten=H at hR
  have hHl:H.length≤w.handles.length+6:=by rw [←hH];simp only [List.length_append];omega
  have hset:(w.tasks.map Task.enc).set i x.2.1.enc=List.take w.tasks.length ((w.tasks.map Task.enc).set i x.2.1.enc):=(bD (by simp)).symm
  have htk:∀ r:aV,r ∈ x.2.1.results.drop t.results.length→r.tokens.length≤6:=by
   intro r hr
   have h1:r.tokens ∈ (x.2.1.results.drop t.results.length).map aV.tokens:=List.mem_map_of_mem hr
   have h2:∀ (l:List (List (List UInt8))),r.tokens ∈ l→r.tokens.length≤l.flatten.length:=by
    intro l
    induction l with
    |nil=>intro h;simp at h
    |cons a l ih=>
     intro h
     simp only [List.flatten_cons,List.length_append]
     rcases List.mem_cons.1 h with rfl|h
     ·omega
     ·have:=ih h;omega
   have:=h2 _ h1
   omega
  rcases hE:x.2.2.1 with _|⟨ev,evs⟩
  ·simp only [hE,List.length_nil,Nat.add_zero,Nat.le_refl,if_true,List.map_nil,List.nil_append,go_sem]
   have hJ:=ah e' (ah hs (ah hx (ah m1 (ah m2 m3))))
   repeat' first
    |(first|refine sC ?_|refine sD ?_|refine sZ ?_|refine sY ?_|refine sF ?_);simp only [hJ,Task.enc,ak.enc,go_sem]
    |(first|refine bF (fun hq=> ?_) (fun hq=> ?_)|refine dY (fun hq=> ?_) (fun hq=> ?_)|refine dL (fun hq=> ?_) (fun hq=> ?_))<;>simp only [hq,hJ,Task.enc,ak.enc,go_sem]
    |refine sM ?_;simp only [ay,rv,au,get,hJ,Task.enc,ak.enc,go_sem]
    |refine bn ?_
    |fail
   all_goals clear hJ
   refine go_loop (fun y:{y:Nat×List (List UInt8) // t.results.length≤y.1∧y.2++((x.2.1.results.drop y.1).map aV.tokens).flatten=H}=>⟨5000,[(2,.ptr 8 0),(4,.ptr 16 0),(8,.ptr 192 0),(11,I y.1.1)],[(8,.box (aK.enc ⟨w.setup,x.1,w.tasks.set i x.2.1,w.log++x.2.2.1,sn,y.1.2⟩)),(16,.box [I 0,I 0,I 0,I 0,I 0,I 0,I 0,I 0,Nl,Nl,I 0,I 0,Nl,I 0,Nl,Nl,I 0,I 0,I 0,Nl,Nl,I 0,Nl]),(192,.box (Task.enc x.2.1))]⟩) (fun y=>x.2.1.results.length - y.1.1) ⟨(t.results.length,w.handles),Nat.le_refl _,hH⟩ (Wk.mk [(8,8),(16,16),(192,192)] [] rfl rfl (by simp only [dJ,cO,au,rv,aK.enc,Task.enc,go_sem]<;>(try simp [hE])<;>first|exact hset|exact ⟨hset,(bD (l:=w.log.map Ev.enc++Ev.enc ev::evs.map Ev.enc) (i:=w.log.length+(evs.length+1)) (by simp)).symm⟩) trivial (by simp only [gU,rv,au,go_sem]<;>try simp)) ?_
   rintro ⟨⟨j,hs'⟩,hj,he⟩ B hB
   simp only at hj he
   simp only [aK.enc,Task.enc,List.length_map,go_sem]
   by_cases e1:j<x.2.1.results.length
   ·have e2:decide ((j:Int)<(x.2.1.results.length:Int))=true:=by simp;omega
    have hw:=cZ (show j≤100000 by omega)
    rw [eP aV.z e1,List.map_cons,List.flatten_cons] at he
    have hxr:nth (x.2.1.results.map aV.enc) j=aV.enc (x.2.1.results[j]?.getD aV.z):=bZ aV.enc aV.z e1
    have hin:x.2.1.results[j]?.getD aV.z ∈ x.2.1.results.drop t.results.length:=by
     rw [List.getElem?_eq_getElem e1]
     exact List.mem_drop_iff_getElem.2 ⟨j - t.results.length,by omega,by simp only [Option.getD_some];congr 1;omega⟩
    have htk:=htk _ hin
    generalize x.2.1.results[j]?.getD aV.z=r at he hxr htk
    have zk:hs'.length+r.tokens.length≤w.handles.length+6:=by
     have:(hs'++(r.tokens++((x.2.1.results.drop (j+1)).map aV.tokens).flatten)).length≤w.handles.length+6:=by rw [he];exact hHl
     simp only [List.length_append] at this
     omega
    have n1:=mx hs'.length (by omega)
    have n2:=mx (hs'.length+r.tokens.length) (by omega)
    have t1:List.take hs'.length (dm hs')=dm hs':=bD (by simp [dm])
    rcases hT:r.tokens with _|⟨tk,ul⟩
    ·simp only [e2,hxr,hw,hT,t1,aV.enc,Int.toNat_natCast,fE,List.length_map,List.length_nil,Nat.add_zero,Nat.le_refl,if_true,go_sem]
     repeat (refine bn ?_)
     have he2:hs'++((x.2.1.results.drop (j+1)).map aV.tokens).flatten=H:=by rw [hT] at he;simpa using he
     exact hB _ ⟨(j+1,hs'),by simp only;omega,he2⟩ (by simp only;omega) (Wk.mk [(8,8),(16,16),(192,192)] [] rfl rfl (by simp only [dJ,cO,au,rv,aK.enc,Task.enc,go_sem]<;>(try simp [dm])) trivial (by simp only [gU,rv,au,go_sem]<;>try simp))
    ·simp only [e2,hxr,hw,hT,t1,aV.enc,Int.toNat_natCast,fE,List.length_map,List.length_cons,show ¬ (hs'.length+(ul.length+1)≤hs'.length) from by omega,if_false,go_sem]
     rw [hT] at n2
     simp only [List.length_cons] at n2
     rw [hT] at zk
     simp only [List.length_cons] at zk
     repeat (refine bn ?_)
     have he2:(hs'++tk::ul)++((x.2.1.results.drop (j+1)).map aV.tokens).flatten=H:=by rw [hT] at he;simpa using he
     exact hB _ ⟨(j+1,hs'++tk::ul),by simp only;omega,he2⟩ (by simp only;omega) (Wk.mk [(8,8),(16,16),(192,192)] [] rfl rfl (by simp only [dJ,cO,au,rv,aK.enc,Task.enc,go_sem]<;>(try simp [dm])<;>exact (bD (i:=hs'.length+(ul.length+1)) (l:=List.map (fun b=>[iM b]) hs'++[iM tk]::List.map (fun b=>[iM b]) ul) (by simp)).symm) trivial (by simp only [gU,rv,au,go_sem]<;>try simp))
   ·have e2:decide ((j:Int)<(x.2.1.results.length:Int))=false:=by simp;omega
    rw [fF (by omega)] at he
    simp only [List.map_nil,List.flatten_nil,List.append_nil] at he
    subst he
    subst hR
    simp only [e2,go_sem]
    exact Fin.mk0 _ rfl rfl (by simp only [ay,rv,au,get,aK.enc,go_sem]<;>simp)
  ·rw [hE] at m3
   simp only [List.length_cons] at m3
   simp only [hE,List.length_cons,show ¬ (w.log.length+(evs.length+1)≤w.log.length) from by omega,if_false,List.map_cons,go_sem]
   rw [hE] at hev
   simp only [List.length_cons] at hev
   refine ⟨⟨by omega,Nat.le_refl _⟩,?_⟩
   have hJ:=ah e' (ah hs (ah hx (ah m1 (ah m2 m3))))
   repeat' first
    |(first|refine sC ?_|refine sD ?_|refine sZ ?_|refine sY ?_|refine sF ?_);simp only [hJ,Task.enc,ak.enc,go_sem]
    |(first|refine bF (fun hq=> ?_) (fun hq=> ?_)|refine dY (fun hq=> ?_) (fun hq=> ?_)|refine dL (fun hq=> ?_) (fun hq=> ?_))<;>simp only [hq,hJ,Task.enc,ak.enc,go_sem]
    |refine sM ?_;simp only [ay,rv,au,get,hJ,Task.enc,ak.enc,go_sem]
    |refine bn ?_
    |fail
   all_goals clear hJ
   refine go_loop (fun y:{y:Nat×List (List UInt8) // t.results.length≤y.1∧y.2++((x.2.1.results.drop y.1).map aV.tokens).flatten=H}=>⟨5000,[(2,.ptr 8 0),(4,.ptr 16 0),(8,.ptr 192 0),(11,I y.1.1)],[(8,.box (aK.enc ⟨w.setup,x.1,w.tasks.set i x.2.1,w.log++x.2.2.1,sn,y.1.2⟩)),(16,.box [I 0,I 0,I 0,I 0,I 0,I 0,I 0,I 0,Nl,Nl,I 0,I 0,Nl,I 0,Nl,Nl,I 0,I 0,I 0,Nl,Nl,I 0,Nl]),(192,.box (Task.enc x.2.1))]⟩) (fun y=>x.2.1.results.length - y.1.1) ⟨(t.results.length,w.handles),Nat.le_refl _,hH⟩ (Wk.mk [(8,8),(16,16),(192,192)] [] rfl rfl (by simp only [dJ,cO,au,rv,aK.enc,Task.enc,go_sem]<;>(try simp [hE])<;>first|exact hset|exact ⟨hset,(bD (l:=w.log.map Ev.enc++Ev.enc ev::evs.map Ev.enc) (i:=w.log.length+(evs.length+1)) (by simp)).symm⟩) trivial (by simp only [gU,rv,au,go_sem]<;>try simp)) ?_
   rintro ⟨⟨j,hs'⟩,hj,he⟩ B hB
   simp only at hj he
   simp only [aK.enc,Task.enc,List.length_map,go_sem]
   by_cases e1:j<x.2.1.results.length
   ·have e2:decide ((j:Int)<(x.2.1.results.length:Int))=true:=by simp;omega
    have hw:=cZ (show j≤100000 by omega)
    rw [eP aV.z e1,List.map_cons,List.flatten_cons] at he
    have hxr:nth (x.2.1.results.map aV.enc) j=aV.enc (x.2.1.results[j]?.getD aV.z):=bZ aV.enc aV.z e1
    have hin:x.2.1.results[j]?.getD aV.z ∈ x.2.1.results.drop t.results.length:=by
     rw [List.getElem?_eq_getElem e1]
     exact List.mem_drop_iff_getElem.2 ⟨j - t.results.length,by omega,by simp only [Option.getD_some];congr 1;omega⟩
    have htk:=htk _ hin
    generalize x.2.1.results[j]?.getD aV.z=r at he hxr htk
    have zk:hs'.length+r.tokens.length≤w.handles.length+6:=by
     have:(hs'++(r.tokens++((x.2.1.results.drop (j+1)).map aV.tokens).flatten)).length≤w.handles.length+6:=by rw [he];exact hHl
     simp only [List.length_append] at this
     omega
    have n1:=mx hs'.length (by omega)
    have n2:=mx (hs'.length+r.tokens.length) (by omega)
    have t1:List.take hs'.length (dm hs')=dm hs':=bD (by simp [dm])
    rcases hT:r.tokens with _|⟨tk,ul⟩
    ·simp only [e2,hxr,hw,hT,t1,aV.enc,Int.toNat_natCast,fE,List.length_map,List.length_nil,Nat.add_zero,Nat.le_refl,if_true,go_sem]
     repeat (refine bn ?_)
     have he2:hs'++((x.2.1.results.drop (j+1)).map aV.tokens).flatten=H:=by rw [hT] at he;simpa using he
     exact hB _ ⟨(j+1,hs'),by simp only;omega,he2⟩ (by simp only;omega) (Wk.mk [(8,8),(16,16),(192,192)] [] rfl rfl (by simp only [dJ,cO,au,rv,aK.enc,Task.enc,go_sem]<;>(try simp [dm])) trivial (by simp only [gU,rv,au,go_sem]<;>try simp))
    ·simp only [e2,hxr,hw,hT,t1,aV.enc,Int.toNat_natCast,fE,List.length_map,List.length_cons,show ¬ (hs'.length+(ul.length+1)≤hs'.length) from by omega,if_false,go_sem]
     rw [hT] at n2
     simp only [List.length_cons] at n2
     rw [hT] at zk
     simp only [List.length_cons] at zk
     repeat (refine bn ?_)
     have he2:(hs'++tk::ul)++((x.2.1.results.drop (j+1)).map aV.tokens).flatten=H:=by rw [hT] at he;simpa using he
     exact hB _ ⟨(j+1,hs'++tk::ul),by simp only;omega,he2⟩ (by simp only;omega) (Wk.mk [(8,8),(16,16),(192,192)] [] rfl rfl (by simp only [dJ,cO,au,rv,aK.enc,Task.enc,go_sem]<;>(try simp [dm])<;>exact (bD (i:=hs'.length+(ul.length+1)) (l:=List.map (fun b=>[iM b]) hs'++[iM tk]::List.map (fun b=>[iM b]) ul) (by simp)).symm) trivial (by simp only [gU,rv,au,go_sem]<;>try simp))
   ·have e2:decide ((j:Int)<(x.2.1.results.length:Int))=false:=by simp;omega
    rw [fF (by omega)] at he
    simp only [List.map_nil,List.flatten_nil,List.append_nil] at he
    subst he
    subst hR
    simp only [e2,go_sem]
    exact Fin.mk0 _ rfl rfl (by simp only [ay,rv,au,get,aK.enc,go_sem]<;>simp)
theorem aqm (w:aK) (k:Int) {n m:Nat} (h:w.wf n m) (hl:w.aW) (hm:m≤1000000):Fn Tryz.prog 91 [.agg w.enc,I k] [] (.aF [.agg (w.pick k).1.enc,I (w.pick k).2]) [] []:=by
 generalize hR:w.pick k=R
 unfold aK.pick at hR
 have htl:=h.tl
 have ho:=Yd w (by omega)
 have hin:=Oz w.tasks 0
 change ∀ x ∈ w.opn,_ at hin
 by_cases c1:(decide (k<0)||decide ((w.opn.length:Int)≤k))=true
 ·rw [if_pos c1] at hR
  subst hR
  generalize w.opn=o at ho c1
  by_cases c2:k<0
  ·have c2':decide (k<0)=true:=by simpa using c2
   refine Fn.aT bY RN (by simp) ?_
   unfold E8 SC.mk' aK.enc
   simp only [go_sem]
   have hJ:=ah c2' aK.enc.eq_1
   exact aZ
  ·have c2':decide (k<0)=false:=by simpa using c2
   have c3:decide ((o.length:Int)≤k)=true:=by simpa [c2'] using c1
   refine Fn.aT bY RN (by simp) ?_
   unfold E8 SC.mk' aK.enc
   simp only [go_sem]
   have hJ:=ah c2' (ah c3 aK.enc.eq_1)
   exact aZ
 ·rw [if_neg c1] at hR
  simp only [Bool.not_eq_true,Bool.or_eq_false_iff] at c1
  obtain ⟨c2,c3⟩:=c1
  have d2:¬ k<0:=by simpa using c2
  have d3:¬ (w.opn.length:Int)≤k:=by simpa using c3
  have hx:gI w.opn k.toNat ∈ w.opn:=by
   unfold gI;rw [List.getElem?_eq_getElem (by omega)];exact List.getElem_mem _
  have hnt:nth (encI w.opn) k.toNat=[I (gI w.opn k.toNat)]:=ak7 (by omega)
  obtain ⟨j,h1,h2,h3⟩:=hin _ hx
  have h1':gI w.opn k.toNat=(j:Int):=by rw [h1];omega
  have hst:=aqk w j h2 h3 h hl hm
  rw [h1',Int.toNat_natCast] at hR
  rw [h1'] at hnt
  generalize w.step j=y at hR hst
  subst hR
  generalize w.opn=o at ho c3 d3 hnt
  refine Fn.aT bY RN (by simp) ?_
  unfold E8 SC.mk' aK.enc
  simp only [go_sem]
  have hJ:=ah c2 (ah c3 hnt)
  repeat' first
   |(first|refine sC ?_|refine sD ?_|refine sZ ?_|refine sY ?_|refine sF ?_);simp only [hJ,aK.enc,go_sem]
   |(first|refine bF (fun hq=> ?_) (fun hq=> ?_)|refine dY (fun hq=> ?_) (fun hq=> ?_)|refine dL (fun hq=> ?_) (fun hq=> ?_))<;>simp only [hq,hJ,aK.enc,go_sem]
   |refine sM ?_;simp only [ay,rv,au,get,hJ,aK.enc,go_sem]
   |refine bn ?_
   |fail
  all_goals clear hJ
  done
end Go.Eng
namespace Go.Eng
open Go
theorem aqn:∀ s ∈ [(1:Int),2,3,4,5,6],∀ l ∈ [(1:Int),2,3,4,5,6],l≤s→(Dir.new s l).1.val=0∧(Dir.new s l).1.aJ.length=s.toNat:=by decide
theorem Setup.aqo {u:Setup} (h:u.good=true):(1≤u.slots∧u.slots≤6)∧(1≤u.live∧u.live≤u.slots)∧(1≤u.limit∧u.limit≤8):=by
 unfold Setup.good at h
 simp only [Bool.and_eq_true] at h
 obtain ⟨g1,g2,g3,g4,g5,g6,g7,g8⟩:=h
 exact ⟨by simpa [inB] using g1,by simpa [inB] using g2,by simpa [inB] using g5⟩
theorem aK.aqp {u:Setup} (e:(aK.new u).2=0):∃ n,(aK.new u).1.wf n 0∧(aK.new u).1.aW:=by
 have hz:=aK.ap5 e
 have hg:u.good=true:=by
  have:=hz.1
  unfold ak.new at this
  split at this
  ·cases this
  ·rename_i hc;simpa using hc
 obtain ⟨h1,h2,h3⟩:=Setup.aqo hg
 have hd:=aqn u.slots (by simp;omega) u.live (by simp;omega) h2.2
 have hl:=ak.OX u
 refine ⟨u.slots.toNat,?_⟩
 rw [hz.2]
 refine ⟨⟨⟨hg,by simp only;omega⟩,?_,(fun t ht=>by cases ht),Nat.zero_le _,Int.le_refl _,Int.le_refl _,Nat.zero_le _,Nat.zero_le _⟩,hl,(fun t ht=>by cases ht)⟩
 unfold ak.new
 rw [if_neg (by simp [hg])]
 exact ⟨by omega,by omega,by simp,by simp,hd.1,hd.2⟩
end Go.Eng
namespace Go.Eng
open Go Go.Proofs
attribute [local go_sem] ak.enc ax.enc Task.enc Ev.enc bG.enc bf.enc dG.enc Dead.enc Dir.enc aj.enc Walk.enc aV.enc aH.enc bT.enc Setup.enc aS fD fE List.length_map Int.toNat_natCast
theorem aqr (w:aK) (c:bI) {n m:Nat} (h:w.wf n m) (hl:w.aW) (hm:m+256≤1000000) (hr:c.refs.length≤1000):Fn Tryz.prog 46 [.agg w.enc,.agg c.enc] [] (.aF [.agg (w.oO c).1.enc,I (w.oO c).2]) [] []:=by
 generalize hR:w.oO c=R
 unfold aK.oO at hR
 simp only at hR
 by_cases k1:(c.kind==1)=true
 ·simp only [if_pos k1] at hR
  generalize hb:max 0 (min c.eY 255)=b at hR
  have b0:0≤b:=by omega
  have b1:b≤255:=by omega
  refine Fn.aT bY zZ (by simp) ?_
  unfold wI SC.mk' aK.enc bI.enc
  simp only [k1,hb,go_sem]
  refine go_loop (fun x:{x:Nat×aK // x.1≤b.toNat∧x.2.wf n (m+x.1)∧x.2.aW∧rU c.pick (b.toNat - x.1) x.2=R}=>⟨5000,[(2,.ptr 8 0),(3,.ptr 16 0),(4,.ptr 24 0),(6,I b),(7,I x.1.1)],[(8,.box x.1.2.enc),(16,.box c.enc),(24,.box [I 0,I 0,I 0,I 0,I 0,I 0,I 0,I 0,Nl,Nl,I 0,I 0,Nl,I 0,Nl,Nl,I 0,I 0,I 0,Nl,Nl,I 0,Nl])]⟩) (fun x=>b.toNat - x.1.1) ⟨(0,w),by omega,by simpa using h,hl,by simpa using hR⟩ (Wk.mk [(8,8),(16,16),(24,24)] [] rfl rfl (by simp only [dJ,cO,au,rv,aK.enc,bI.enc,go_sem]<;>try simp) trivial (by simp only [gU,rv,au,go_sem]<;>try simp)) ?_
  rintro ⟨⟨j,v⟩,hj,hwf,oZ,he⟩ B hB
  simp only at hj hwf oZ he
  have hlt:=hwf.tl
  simp only [aK.enc,bI.enc,go_sem]
  by_cases e1:(j:Int)<b
  ·have e2:decide ((j:Int)<b)=true:=by simpa using e1
   have hw:=cZ (show j≤100000 by omega)
   obtain ⟨f,hf⟩:∃ f,b.toNat - j=f+1:=⟨b.toNat - j - 1,by omega⟩
   rw [hf] at he
   simp only [rU] at he
   have ho:=Yd v (by omega)
   have hol:v.opn.length≤v.tasks.length:=Xb _ _
   by_cases h0:v.opn.length=0
   ·rw [if_pos h0] at he
    subst he
    have h0':((v.opn.length:Int)==0)=true:=by simp [h0]
    simp only [e2,go_sem]
    have hJ:=ah h0' (ah bI.enc.eq_1 aK.enc.eq_1)
    exact aZ
   ·rw [if_neg h0] at he
    have h0':((v.opn.length:Int)==0)=false:=by simp [h0]
    have h0n:((v.opn.length:Int)≠0):=by omega
    have hp:=aqm v ((max c.pick 0).tmod v.opn.length) hwf oZ (by omega)
    have hpw:=fun e=>aK.Xd (k:=(max c.pick 0).tmod v.opn.length) hwf (by omega) e
    have hpl:=fun e=>aK.ac8 (k:=(max c.pick 0).tmod v.opn.length) hwf oZ e
    generalize v.pick ((max c.pick 0).tmod v.opn.length)=y at he hp hpw hpl
    by_cases h3:y.2≠0
    ·rw [if_pos h3] at he
     subst he
     have h3':(y.2 !=0)=true:=by simpa using h3
     simp only [e2,go_sem]
     have hJ:=ah h0' (ah h0n (ah h3' (ah bI.enc.eq_1 aK.enc.eq_1)))
     exact aZ
    ·rw [if_neg h3] at he
     have h3':(y.2 !=0)=false:=by simpa using h3
     have hpw:=hpw (Decidable.not_not.1 h3)
     have hpl:=hpl (Decidable.not_not.1 h3)
     simp only [e2,go_sem]
     have hJ:=ah h0' (ah h0n (ah h3' hw))
     repeat' first
      |(first|refine sC ?_|refine sD ?_|refine sZ ?_|refine sY ?_|refine sF ?_);simp only [hJ,bI.enc,aK.enc,go_sem]
      |(first|refine bF (fun hq=> ?_) (fun hq=> ?_)|refine dY (fun hq=> ?_) (fun hq=> ?_)|refine dL (fun hq=> ?_) (fun hq=> ?_))<;>simp only [hq,hJ,bI.enc,aK.enc,go_sem]
      |refine sM ?_;simp only [ay,rv,au,get,hJ,bI.enc,aK.enc,go_sem]
      |refine bn ?_
      |fail
     all_goals clear hJ
     have he2:rU c.pick (b.toNat - (j+1)) y.1=R:=by rw [show b.toNat - (j+1)=f by omega];exact he
     exact hB _ ⟨(j+1,y.1),by simp only;omega,hpw,hpl,he2⟩ (by simp only;omega) (Wk.mk [(8,8),(16,16),(24,24)] [] rfl rfl (by simp only [dJ,cO,au,rv,aK.enc,bI.enc,go_sem]<;>try simp) trivial (by simp only [gU,rv,au,go_sem]<;>try simp))
  ·have e2:decide ((j:Int)<b)=false:=by simpa using e1
   rw [show b.toNat - j=0 by omega] at he
   simp only [rU] at he
   subst he
   simp only [e2,go_sem]
   have hJ:=ah bI.enc.eq_1 aK.enc.eq_1
   exact aZ
 simp only [Bool.not_eq_true] at k1
 simp only [k1,Bool.false_eq_true,if_false] at hR
 by_cases k2:(c.kind==2)=true
 ·simp only [if_pos k2] at hR
  generalize hb:max 0 (min c.eY 255)=b at hR
  have ht:=ap4 w b (by have:=h.lg;omega)
  generalize w.tick b=y at hR ht
  by_cases h3:(y.2==0)=true
  ·rw [if_pos h3] at hR
   subst hR
   refine Fn.aT bY zZ (by simp) ?_
   unfold wI SC.mk' aK.enc bI.enc
   simp only [k1,k2,hb,go_sem]
   have hJ:=ah h3 aK.enc.eq_1
   exact aZ
  ·rw [if_neg h3] at hR
   simp only [Bool.not_eq_true] at h3
   subst hR
   refine Fn.aT bY zZ (by simp) ?_
   unfold wI SC.mk' aK.enc bI.enc
   simp only [k1,k2,hb,go_sem]
   have hJ:=ah h3 aK.enc.eq_1
   exact aZ
 simp only [Bool.not_eq_true] at k2
 simp only [k2,Bool.false_eq_true,if_false] at hR
 by_cases k3:(c.kind==3)=true
 ·simp only [if_pos k3] at hR
  have htl:=h.tl
  by_cases hrf:0<c.refs.length
  ·rw [if_pos hrf] at hR
   have Pe:decide ((0:Int)<(c.refs.length:Int))=true:=by simp;omega
   have hin:=adz w {c.inv with tokens:=c.refs.map fun r=>Az r.index r.variant r.raw w.handles} (by omega)
   generalize w.invoke {c.inv with tokens:=c.refs.map fun r=>Az r.index r.variant r.raw w.handles}=y at hR hin
   generalize hf:(fun r:dI=>Az r.index r.variant r.raw w.handles)=f at hin
   refine Fn.aT bY zZ (by simp) ?_
   unfold wI SC.mk' aK.enc bI.enc
   simp only [k1,k2,k3,Pe,List.length_map,go_sem]
   refine go_loop (fun j:{j:Nat // j≤c.refs.length}=>⟨5000,[(2,.ptr 8 0),(3,.ptr 16 0),(4,.ptr 24 0),(13,.ptr 160 0),(14,I j.1)],[(8,.box w.enc),(16,.box c.enc),(24,.box [I 0,I 0,I 0,I 0,I 0,I 0,I 0,I 0,Nl,Nl,I 0,I 0,Nl,I 0,Nl,Nl,I 0,I 0,I 0,Nl,Nl,I 0,Nl]),(160,.box [I c.inv.kind,I c.inv.home,I c.inv.max_,I c.inv.vis,I c.inv.bC,I c.inv.to,.sl 1 (encS c.inv.bodies),.own 4000 1 0 j.1]),(4000,.row 46 1 (dm ((c.refs.take j.1).map f)))]⟩) (fun j=>c.refs.length - j.1) ⟨0,by omega⟩ (Wk.mk [(8,8),(16,16),(24,24),(160,160)] [4000] rfl rfl (by simp only [dJ,cO,au,rv,aK.enc,bI.enc,go_sem]<;>try simp) (by simp only [ja,go_sem]<;>try simp [dm]) (by simp only [gU,rv,au,go_sem]<;>try simp)) ?_
   rintro ⟨j,hj⟩ B hB
   simp only [aK.enc,bI.enc,go_sem]
   by_cases e1:j<c.refs.length
   ·have e2:decide ((j:Int)<(c.refs.length:Int))=true:=by simp;omega
    have hw:=cZ (show j≤100000 by omega)
    have hx:nth (c.refs.map dI.enc) j=dI.enc (c.refs[j]?.getD dI.z):=bZ dI.enc dI.z e1
    have ht:c.refs.take (j+1)=c.refs.take j++[c.refs[j]?.getD dI.z]:=Dx dI.z e1
    generalize c.refs[j]?.getD dI.z=r at hx ht
    have hm1:j+1≤maxLen:=Nat.le_trans (show j+1≤2000 by omega) (by decide)
    have l1:(dm ((c.refs.take j).map f)).length=j:=by simp [dm];omega
    have t1:List.take j (dm ((c.refs.take j).map f))=dm ((c.refs.take j).map f):=bD (by omega)
    have e4:dm ((c.refs.take j).map f)++[[iM (Az r.index r.variant r.raw w.handles)]]=dm ((c.refs.take (j+1)).map f):=by rw [ht,←hf];simp [dm]
    have hB':=hB
    clear hB
    simp only [e2,hx,hw,l1,t1,dI.enc,Int.toNat_natCast,fE,List.length_map,go_sem]
    repeat' first
     |(refine wz ?_;simp only [e2,hx,hw,l1,t1,e4,dI.enc,Int.toNat_natCast,List.length_map,go_sem])
     |(refine aO (abJ r.index r.variant r.raw w.handles) rfl rfl ?_;simp only [e2,hx,hw,l1,t1,e4,dI.enc,Int.toNat_natCast,List.length_map,go_sem])
     |(refine dh (abJ r.index r.variant r.raw w.handles) rfl rfl ?_;simp only [e2,hx,hw,l1,t1,e4,dI.enc,Int.toNat_natCast,List.length_map,go_sem])
     |refine bn ?_
     |fail
    exact hB' _ ⟨j+1,by omega⟩ (by simp only;omega) (Wk.mk [(8,8),(16,16),(24,24),(160,160),(4000,5128)] [] rfl rfl (by simp only [dJ,cO,au,rv,aK.enc,bI.enc,go_sem]<;>try simp) trivial (by simp only [gU,rv,au,go_sem]<;>try simp))
   ·have e2:decide ((j:Int)<(c.refs.length:Int))=false:=by simp;omega
    have hjl:j=c.refs.length:=by omega
    have tt:c.refs.take j=c.refs:=bD (by omega)
    have l1:(dm (c.refs.map f)).length=j:=by simp [dm];omega
    have t1:List.take j (dm (c.refs.map f))=dm (c.refs.map f):=bD (by omega)
    clear hB
    by_cases h3:(y.2.2==0)=true
    ·rw [if_pos h3] at hR
     subst hR
     simp only [e2,tt,go_sem]
     have hJ:=ah h3 (ah l1 (ah t1 (ah aK.enc.eq_1 bV.enc.eq_1)))
     exact aZ
    ·rw [if_neg h3] at hR
     simp only [Bool.not_eq_true] at h3
     subst hR
     simp only [e2,tt,go_sem]
     have hJ:=ah h3 (ah l1 (ah t1 (ah aK.enc.eq_1 bV.enc.eq_1)))
     exact aZ
  ·rw [if_neg hrf] at hR
   have Pe:decide ((0:Int)<(c.refs.length:Int))=false:=decide_eq_false (by omega)
   have hin:=adz w c.inv (by omega)
   generalize w.invoke c.inv=y at hR hin
   by_cases h3:(y.2.2==0)=true
   ·rw [if_pos h3] at hR
    subst hR
    refine Fn.aT bY zZ (by simp) ?_
    unfold wI SC.mk' aK.enc bI.enc
    simp only [k1,k2,k3,Pe,List.length_map,go_sem]
    have hJ:=ah h3 (ah aK.enc.eq_1 bV.enc.eq_1)
    exact aZ
   ·rw [if_neg h3] at hR
    simp only [Bool.not_eq_true] at h3
    subst hR
    refine Fn.aT bY zZ (by simp) ?_
    unfold wI SC.mk' aK.enc bI.enc
    simp only [k1,k2,k3,Pe,List.length_map,go_sem]
    have hJ:=ah h3 (ah aK.enc.eq_1 bV.enc.eq_1)
    exact aZ
 ·rw [if_neg k3] at hR
  simp only [Bool.not_eq_true] at k3
  subst hR
  refine Fn.aT bY zZ (by simp) ?_
  unfold wI SC.mk' aK.enc bI.enc
  simp only [k1,k2,k3,go_sem]
  have hJ:=aK.enc.eq_1
  exact aZ
theorem aqs (u:Setup) (l:List bI) (hl:l.length≤400) (hr:∀ c ∈ l,c.refs.length≤1000):Fn Tryz.prog 17 [.agg u.enc,.sl 12 (l.map bI.enc)] [] (.aF [.agg (aK.run u l).1.enc,I (aK.run u l).2]) [] []:=by
 generalize hR:aK.run u l=R
 unfold aK.run at hR
 have hn:=adw u
 have hok:=fun e=>aK.aqp (u:=u) e
 generalize aK.new u=x at hR hn hok
 by_cases e:x.2≠0
 ·rw [if_pos e] at hR
  subst hR
  have e':(x.2 !=0)=true:=by simpa using e
  refine Fn.aT bY aaB (by simp) ?_
  unfold Nj SC.mk' Setup.enc
  simp only [go_sem]
  have hJ:=ah e' aK.enc.eq_1
  exact aZ
 ·rw [if_neg e,if_neg (show ¬ (400:Int)<l.length by omega)] at hR
  have e':(x.2 !=0)=false:=by simpa using e
  have e4:decide ((400:Int)<(l.length:Int))=false:=decide_eq_false (by omega)
  obtain ⟨n,hwf,oZ⟩:=hok (Decidable.not_not.1 e)
  refine Fn.aT bY aaB (by simp) ?_
  unfold Nj SC.mk' Setup.enc
  simp only [go_sem]
  have hJ:=ah e' e4
  repeat' first
   |(first|refine sC ?_|refine sD ?_|refine sZ ?_|refine sY ?_|refine sF ?_);simp only [hJ,aK.enc,List.length_map,go_sem]
   |(first|refine bF (fun hq=> ?_) (fun hq=> ?_)|refine dY (fun hq=> ?_) (fun hq=> ?_)|refine dL (fun hq=> ?_) (fun hq=> ?_))<;>simp only [hq,hJ,aK.enc,List.length_map,go_sem]
   |refine sM ?_;simp only [ay,rv,au,get,hJ,aK.enc,List.length_map,go_sem]
   |refine bn ?_
   |fail
  all_goals clear hJ
  refine go_loop (fun y:{y:Nat×aK // y.1≤l.length∧y.2.wf n (256*y.1)∧y.2.aW∧FO (l.drop y.1) y.2=R}=>⟨5000,[(1,.sl 12 (l.map bI.enc)),(2,.ptr 8 0),(4,.ptr 16 0),(6,.ptr 72 0),(8,I y.1.1)],[(8,.box u.enc),(16,.box [I 0,I 0,I 0,I 0,I 0,I 0,I 0,I 0,Nl,Nl,I 0,I 0,Nl,I 0,Nl,Nl,I 0,I 0,I 0,Nl,Nl,I 0,Nl]),(72,.box y.1.2.enc)]⟩) (fun y=>l.length - y.1.1) ⟨(0,x.1),Nat.zero_le _,by simpa using hwf,oZ,by simpa using hR⟩ (Wk.mk [(8,8),(16,16),(72,72)] [] rfl rfl (by simp only [dJ,cO,au,rv,aK.enc,Setup.enc,go_sem]<;>try simp) trivial (by simp only [gU,rv,au,go_sem]<;>try simp)) ?_
  rintro ⟨⟨j,v⟩,hj,hwf,oZ,he⟩ B hB
  simp only at hj hwf oZ he
  simp only [aK.enc,Setup.enc,go_sem]
  by_cases e1:j<l.length
  ·have e2:decide ((j:Int)<(l.length:Int))=true:=by simp;omega
   have hw:=cZ (show j≤100000 by omega)
   rw [eP bI.z e1] at he
   simp only [FO] at he
   have hx:nth (l.map bI.enc) j=bI.enc (l[j]?.getD bI.z):=bZ bI.enc bI.z e1
   have hrc:(l[j]?.getD bI.z).refs.length≤1000:=by
    rw [List.getElem?_eq_getElem e1];exact hr _ (List.getElem_mem _)
   generalize l[j]?.getD bI.z=c at he hx hrc
   have hd:=aqr v c hwf oZ (by omega) hrc
   have hdw:=fun e=>aK.anb (c:=c) hwf (by omega) e
   have hdl:=fun e=>aK.ap6 (c:=c) hwf oZ (by omega) e
   generalize v.oO c=y at he hd hdw hdl
   by_cases h3:y.2≠0
   ·rw [if_pos h3] at he
    subst he
    have h3':(y.2 !=0)=true:=by simpa using h3
    simp only [e2,hx,bI.enc,Int.toNat_natCast,List.length_map,go_sem]
    have hJ:=ah h3' (ah hx (ah bI.enc.eq_1 aK.enc.eq_1))
    exact aZ
   ·rw [if_neg h3] at he
    have h3':(y.2 !=0)=false:=by simpa using h3
    have hdw:=hdw (Decidable.not_not.1 h3)
    have hdl:=hdl (Decidable.not_not.1 h3)
    simp only [e2,hx,bI.enc,Int.toNat_natCast,List.length_map,go_sem]
    have hJ:=ah h3' (ah hx hw)
    repeat' first
     |(first|refine sC ?_|refine sD ?_|refine sZ ?_|refine sY ?_|refine sF ?_);simp only [hJ,bI.enc,aK.enc,Int.toNat_natCast,go_sem]
     |(first|refine bF (fun hq=> ?_) (fun hq=> ?_)|refine dY (fun hq=> ?_) (fun hq=> ?_)|refine dL (fun hq=> ?_) (fun hq=> ?_))<;>simp only [hq,hJ,bI.enc,aK.enc,Int.toNat_natCast,go_sem]
     |refine sM ?_;simp only [ay,rv,au,get,hJ,bI.enc,aK.enc,Int.toNat_natCast,go_sem]
     |refine bn ?_
     |fail
    all_goals clear hJ
    exact hB _ ⟨(j+1,y.1),e1,by rw [Nat.mul_add];exact hdw,hdl,he⟩ (by simp only;omega) (Wk.mk [(8,8),(16,16),(72,72)] [] rfl rfl (by simp only [dJ,cO,au,rv,aK.enc,Setup.enc,go_sem]<;>try simp) trivial (by simp only [gU,rv,au,go_sem]<;>try simp))
  ·have e2:decide ((j:Int)<(l.length:Int))=false:=by simp;omega
   rw [fF (by omega)] at he
   simp only [FO] at he
   subst he
   simp only [e2,List.length_map,go_sem]
   have hJ:=ah bI.enc.eq_1 aK.enc.eq_1
   exact aZ
end Go.Eng
namespace Go.Eng
open Go Go.Proofs
theorem adC (l:List Int):∀ (i a:Nat) (acc:List dI),(jo l i a acc).1.length=acc.length+i
 |0,a,acc=>rfl
 |i+1,a,acc=>by simp only [jo,adC l i,List.length_append,List.length_cons,List.length_nil];omega
theorem aqt (c:bI):(nS c).refs=c.refs:=by unfold nS;split<;>rfl
theorem aqu (l:List Int) (a:Nat):(uf l a).1.refs.length≤1000:=by
 unfold uf
 simp only
 repeat' split
 all_goals simp only [aqt,iy,adC,List.length_nil]
 all_goals
  have h1:=yF l (nN l (eX l (nN l (nN l a 20) 4) 3 5) 4) (lo:=1) (hi:=2) (by omega)
  have h2:=yF l (eX l (nN l (nN l a 20) 4) 3 5) (lo:=1) (hi:=2) (by omega)
  omega
theorem adD (l:List Int):∀ (n a:Nat) (acc:List bI),(∀ c ∈ acc,c.refs.length≤1000)→(qH l n a acc).1.length≤acc.length+n∧∀ c ∈ (qH l n a acc).1,c.refs.length≤1000
 |0,a,acc,h=>⟨Nat.le_refl _,h⟩
 |n+1,a,acc,h=>by
  simp only [qH]
  split
  ·have:=adD l n (uf l a).2 (acc++[(uf l a).1]) (fun c hc=>by
    rcases List.mem_append.1 hc with hc|hc
    ·exact h c hc
    ·rw [List.mem_singleton.1 hc];exact aqu l a)
   refine ⟨?_,this.2⟩
   have h1:=this.1
   simp only [List.length_append,List.length_cons,List.length_nil] at h1
   omega
  ·exact ⟨by simp only;omega,h⟩
theorem aqv (l:List Int) (a n:Nat) (hl:l.length≤4000) (hn:n≤400):Fn Tryz.prog 8 [.ptr 0 0,I n] [eU l a] (.agg (Bc l n a).1.enc) [eU l (Bc l n a).2] []:=by
 generalize hR:Bc l n a=R
 unfold Bc at hR
 simp only at hR
 have hs:=an3 l a hl
 generalize Dv l a=u at hR hs
 have hc:=an5 l u.2 n hl (by omega)
 have hk:=adD l n u.2 [] (by simp)
 generalize qH l n u.2 []=c at hR hc hk
 have hr:=aqs u.1 c.1 (by have:=hk.1;simp at this;omega) hk.2
 generalize aK.run u.1 c.1=x at hR hr
 have hz:=adw ⟨1,1,1,1,1,0,1,0⟩
 generalize aK.new ⟨1,1,1,1,1,0,1,0⟩=z at hR hz
 subst hR
 refine Fn.aN ok8 (by simp) ?_
 unfold s8 SC.mk'
 simp only [go_sem]
 refine fC (b:=0) hs ⟨rfl,trivial⟩ rfl rfl rfl rfl ?_
 simp only [Setup.enc,go_sem]
 refine fC (b:=0) hc ⟨rfl,⟨rfl,rfl⟩,trivial⟩ rfl rfl rfl rfl ?_
 simp only [Setup.enc,go_sem]
 refine aO hr rfl rfl ?_
 simp only [aK.enc,go_sem]
 by_cases e:x.2≠0
 ·have e':(x.2 !=0)=true:=by simpa using e
  simp only [e',go_sem]
  refine aO hz rfl rfl ?_
  simp only [aK.enc,go_sem]
  exact Fin.mk1 _ rfl rfl rfl (by simp [au,rv]) (by simp [ay,au,rv,get,e])
 ·have e':(x.2 !=0)=false:=by simpa using e
  simp only [e',go_sem]
  exact Fin.mk1 _ rfl rfl rfl (by simp [au,rv]) (by simp [ay,au,rv,get,Decidable.not_not.1 e])
end Go.Eng
