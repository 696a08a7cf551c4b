/-
  Part of a proof: lemmas and definitions of this work.
  No condition.
-/
import Derived.Test.YthhjbngoibmpgaaGreatA08
import Derived.Test.YthhjbngoibmpgaaGreatA48
import Derived.Test.YthhjbngoibmpgaaGreatA47
import Derived.Test.YthhjbngoibmpgaaGreatA24
set_option linter.all false
set_option maxRecDepth 100000
set_option maxHeartbeats 8000000
namespace Go.Eng
open Go Go.Proofs
attribute [local go_sem] aj.enc av.enc Task.enc Ev.enc bD.enc bf.enc cB.enc Dead.enc Dir.enc ak.enc Walk.enc aV.enc aJ.enc bL.enc Setup.enc aS dY dZ List.length_map
theorem aoF (m:Int) (i:bM) (u:Setup) (k:Int):Fn Tryz.prog 36 [I m,.agg i.enc,.agg u.enc,I k] [] (.aF [.agg (Task.start m i u k).1.enc,I (Task.start m i u k).2]) [] []:=by
 generalize hR:Task.start m i u k=R
 unfold Task.start at hR
 have hn:=ady u
 generalize aj.new u=x at hR hn
 have hv:=anE i u
 generalize i.val u=y at hR hv
 refine Fn.aT bR L6 (by simp) ?_
 unfold Qj SC.mk' bM.enc Setup.enc
 simp only [go_sem]
 have hJ:=trivial
 repeat' first
  |(first|refine sC ?_|refine sD ?_|refine sZ ?_|refine sY ?_|refine sF ?_);simp only [hJ,bM.enc,Setup.enc,go_sem]
  |(first|refine bC (fun hq=> ?_) (fun hq=> ?_)|refine dR (fun hq=> ?_) (fun hq=> ?_)|refine dD (fun hq=> ?_) (fun hq=> ?_))<;>simp only [hq,hJ,bM.enc,Setup.enc,go_sem]
  |refine sM ?_;simp only [ay,rv,au,get,hJ,bM.enc,Setup.enc,go_sem]
  |refine bn ?_
  |fail
 all_goals clear hJ
 all_goals clear hn hv
 all_goals exact fz
end Go.Eng
namespace Go.Eng
open Go Go.Proofs
theorem Xr (w:aH) (hl:w.tasks.length<=1000):Fn Tryz.prog 81 [.agg w.enc] [] (.sl 1 (encI w.opn)) [] []:=by
 generalize hR:w.opn=R
 unfold aH.opn at hR
 have mx:∀ j:Nat,j<=10000->j<=maxLen:=fun j h=>Nat.le_trans h (by decide)
 refine Fn.aO Qw (by simp) ?_
 unfold Qv SC.mk' aH.enc
 simp only [go_sem]
 refine go_loop (fun x:{x:Nat×List Int // x.1<=w.tasks.length/\x.2.length<=x.1/\x.2++Go.Eng.opn (w.tasks.drop x.1) x.1=R}=>⟨2000,[(1,.ptr 8 0),(2,Nl),(3,.own 1000 1 0 x.1.2.length),(4,I x.1.1)],[(8,.box [I w.setup.slots,I w.setup.live,I w.setup.capacity,I w.setup.dead,I w.setup.limit,I w.setup.clock,I w.setup.fB,I w.setup.epoch,.sl 9 (w.arena.slots.map Slot.enc),.sl 4 (w.arena.bU.map aJ.enc),I w.arena.dead.owner,I w.arena.dead.dead.cap,.sl 7 (w.arena.dead.dead.l.map ai.enc),I w.arena.dir.version,.sl 3 (w.arena.dir.l.map Span.enc),.sl 1 (encI w.arena.dir.aM),I w.arena.epoch,I w.arena.clock,I w.arena.fB,.sl 63 (w.tasks.map Task.enc),.sl 10 (w.log.map Ev.enc),I w.steps,.sl 1 (bW w.handles)]),(1000,.row 3 1 (encI x.1.2))]⟩) (fun x=>w.tasks.length - x.1.1) ⟨(0,[]),by omega,by simp,by simpa using hR⟩ (wk [(8,8)] [1000]) ?_
 rintro ⟨⟨j,out⟩,hj,ho,he⟩ B hB
 simp only at hj ho he
 simp only [go_sem]
 by_cases e1:j<w.tasks.length
 ·have e2:decide ((j:Int)<(w.tasks.length:Int))=true:=by simp;omega
  rw [eB Task.z e1] at he
  simp only [Go.Eng.opn] at he
  have hx:nth (w.tasks.map Task.enc) j=Task.enc (w.tasks[j]?.getD Task.z):=bS Task.enc Task.z e1
  have hw:=bT (show j<=100000 by omega)
  have hm1:=mx (out.length+1) (by omega)
  generalize w.tasks[j]?.getD Task.z=t at hx he
  have e3:List.take out.length (encI out)=encI out:=bA (by simp [encI])
  have e4:encI out++[[I (j:Int)]]=encI (out++[(j:Int)]):=by simp [encI]
  by_cases h2:t.dn=true
  ·rw [if_pos h2] at he
   simp only [e2,hx,hw,h2,Task.enc,Int.toNat_natCast,List.length_map,go_sem]
   repeat (refine bn ?_)
   exact hB _ ⟨(j+1,out),by simp only;omega,by simp only;omega,he⟩ (by simp only;omega) (wk [(8,8),(1000,1000)] [])
  ·rw [if_neg h2] at he
   simp only [Bool.not_eq_true] at h2
   simp only [e2,hx,hw,h2,e3,e4,Task.enc,aS,Int.toNat_natCast,List.length_map,go_sem]
   repeat (refine bn ?_)
   exact hB _ ⟨(j+1,out++[(j:Int)]),by simp only;omega,by simp;omega,by simpa using he⟩ (by simp only;omega) (wk [(8,8),(1000,2120)] [])
 ·have e2:decide ((j:Int)<(w.tasks.length:Int))=false:=by simp;omega
  rw [eH (by omega)] at he
  simp only [Go.Eng.opn,List.append_nil] at he
  have e4:List.take out.length (encI out)=encI out:=bA (by simp [encI])
  simp only [e2,List.length_map,go_sem]
  exact Fin.aD _ rfl rfl (by rw [<-he];simp only [ay,rv,au,get,e4,aS,go_sem];simp)
attribute [local go_sem] aj.enc av.enc Task.enc Ev.enc bD.enc bf.enc cB.enc Dead.enc Dir.enc ak.enc Walk.enc aV.enc aJ.enc bL.enc Setup.enc aS dY dZ List.length_map
inductive NW:AV->AV->Prop
 |refl (x:AV):NW x x
 |nl (sz:Nat):NW Nl (.sl sz [])
 |agg {cs ds:List AV} (hl:cs.length=ds.length) (h:∀ (i:Nat) (c d:AV),cs[i]? =some c->ds[i]? =some d->NW c d):NW (.agg cs) (.agg ds)
 |aF {cs ds:List AV} (hl:cs.length=ds.length) (h:∀ (i:Nat) (c d:AV),cs[i]? =some c->ds[i]? =some d->NW c d):NW (.aF cs) (.aF ds)
 |sl {sz:Nat} {xs ys:List (List AV)} (hl:xs.length=ys.length) (hx:∀ (k:Nat) (x y:List AV),xs[k]? =some x->ys[k]? =some y->x.length=y.length)
  (h:∀ (k:Nat) (x y:List AV) (j:Nat) (c d:AV),xs[k]? =some x->ys[k]? =some y->x[j]? =some c->y[j]? =some d->NW c d):NW (.sl sz xs) (.sl sz ys)
theorem vw {α β:Type} {xs:List α} {ys:List β} (hl:xs.length=ys.length) {k:Nat} {y:β} (h:ys[k]? =some y):∃ x,xs[k]? =some x:=by
 have:=(List.getElem?_eq_some_iff.1 h).1
 exact ⟨_,List.getElem?_eq_getElem (by omega)⟩
theorem VP.nw {w:World} {ok:Nat->Prop} {x y:AV} (hn:NW x y):∀ {u:Value},VP w ok x u->VP w ok y u:=by
 induction hn with
 |refl x=>exact fun h=>h
 |nl sz=>intro u h;cases h;exact .fZ
 |agg hl _ ih=>
  intro u h
  cases h with
  |agg h1 h2=>
   exact .agg (by omega) fun i d u hd hu=>by
    obtain ⟨c,hc⟩:=vw hl hd
    exact ih i c d hc hd (h2 i c u hc hu)
 |aF hl _ ih=>
  intro u h
  cases h with
  |aF h1 h2=>
   exact .aF (by omega) fun i d u hd hu=>by
    obtain ⟨c,hc⟩:=vw hl hd
    exact ih i c d hc hd (h2 i c u hc hu)
 | @sl sz xs ys hl hx _ ih=>
  intro u h
  cases h with
  |fZ=>
   have:ys=[]:=by simpa using hl.symm
   subst this;exact .fZ
  |sl a n cap f h1 h2 h3 h4 h5 h6=>
   refine .sl a n cap f (by omega) h2 (fun h=>h3 (by omega)) (fun k e he=> ?_) (fun k e j d he hd=> ?_) (fun k e j d he hd=> ?_)
   ·obtain ⟨x,hk⟩:=vw hl he
    rw [<-hx k x e hk he];exact h4 k x hk
   ·obtain ⟨x,hk⟩:=vw hl he
    obtain ⟨c,hc⟩:=vw (hx k x e hk he) hd
    exact h5 k x j c hk hc
   ·obtain ⟨x,hk⟩:=vw hl he
    obtain ⟨c,hc⟩:=vw (hx k x e hk he) hd
    exact ih k x e j c d hk he hc hd (h6 k x j c hk hc)
theorem VR.nw {w:World} {ok:Nat->Prop} {ρ:Nat->Loc} {U:Nat->Prop} {x y:AV} (hn:NW x y):∀ {u:Value},VR w ok ρ U x u->VR w ok ρ U y u:=by
 induction hn with
 |refl x=>exact fun h=>h
 |nl sz=>intro u h;rw [h.dI];exact .p .fZ
 |agg hl _ ih=>
  intro u h
  obtain ⟨vs,rfl,h1,h2⟩:=h.zG
  exact .agg (by omega) fun i d u hd hu=>by
   obtain ⟨c,hc⟩:=vw hl hd
   exact ih i c d hc hd (h2 i c u hc hu)
 |aF hl _ ih=>
  intro u h
  obtain ⟨vs,rfl,h1,h2⟩:=h.X5
  exact .aF (by omega) fun i d u hd hu=>by
   obtain ⟨c,hc⟩:=vw hl hd
   exact ih i c d hc hd (h2 i c u hc hu)
 |sl hl hx h ih=>intro u hv;exact .p (hv.rM.nw (.sl hl hx h))
theorem Fn.nw {P:Program} {f:FuncId} {xs:List AV} {r r':AV} (hF:Fn P f xs [] r [] []) (h:NW r r'):Fn P f xs [] r' [] []:=by
 refine ⟨hF.1,fun C ρ U w vals hr hU hv=>(hF.2 C ρ U w vals hr hU hv).mono fun e w' he=> ?_⟩
 obtain ⟨v,ρ',U',rfl,h1,h2⟩:=he
 exact ⟨v,ρ',U',rfl,h1,h2.nw h⟩
def lK (cs ds:List AV):Prop:=cs.length=ds.length/\∀ (i:Nat) (c d:AV),cs[i]? =some c->ds[i]? =some d->NW c d
theorem lK.refl (l:List AV):lK l l:=⟨rfl,fun i c d h1 h2=>by rw [h1] at h2;cases h2;exact .refl _⟩
theorem lK.cons {c d:AV} {cs ds:List AV} (h:NW c d) (t:lK cs ds):lK (c::cs) (d::ds):=by
 refine ⟨by simp [t.1],fun i x y h1 h2=> ?_⟩
 cases i with
 |zero=>simp at h1 h2;subst h1;subst h2;exact h
 |succ i=>exact t.2 i x y (by simpa using h1) (by simpa using h2)
theorem lK.c {c:AV} {cs ds:List AV} (t:lK cs ds):lK (c::cs) (c::ds):= .cons (.refl _) t
theorem NW.snoc {sz:Nat} (l:List (List AV)) {x y:List AV} (h:lK x y):NW (.sl sz (l++[x])) (.sl sz (l++[y])):=by
 have key:∀ (k:Nat) (a b:List AV),(l++[x])[k]? =some a->(l++[y])[k]? =some b->lK a b:=by
  intro k a b h1 h2
  by_cases hk:k<l.length
  ·rw [List.getElem?_append_left hk] at h1 h2
   rw [h1] at h2;cases h2;exact .refl _
  ·rw [List.getElem?_append_right (by omega)] at h1 h2
   cases hk:k - l.length with
   |zero=>rw [hk] at h1 h2;simp at h1 h2;subst h1;subst h2;exact h
   |succ j=>rw [hk] at h1;simp at h1
 exact .sl (by simp) (fun k a b h1 h2=>(key k a b h1 h2).1) fun k a b j c d h1 h2=>(key k a b h1 h2).2 j c d
theorem adz (u:Setup):Fn Tryz.prog 31 [.agg u.enc] [] (.aF [.agg (aH.new u).1.enc,I (aH.new u).2]) [] []:=by
 generalize hR:aH.new u=R
 unfold aH.new at hR
 have hn:=ady u
 generalize aj.new u=x at hR hn
 refine Fn.aT bR LZ (by simp) ?_
 unfold Qf SC.mk' Setup.enc
 simp only [go_sem]
 have hJ:=trivial
 repeat' first
  |(first|refine sC ?_|refine sD ?_|refine sZ ?_|refine sY ?_|refine sF ?_);simp only [hJ,Setup.enc,go_sem]
  |(first|refine bC (fun hq=> ?_) (fun hq=> ?_)|refine dR (fun hq=> ?_) (fun hq=> ?_)|refine dD (fun hq=> ?_) (fun hq=> ?_))<;>simp only [hq,hJ,Setup.enc,go_sem]
  |refine sM ?_;simp only [ay,rv,au,get,hJ,Setup.enc,go_sem]
  |refine bn ?_
  |fail
 all_goals clear hJ
 all_goals clear hn
 all_goals (subst hR;first|rfl|simp_all [rv,au,get,aH.enc,aj.enc,Setup.enc]<;>try rfl)
def aH.adA (x:aH) (lg:List (List AV)):List AV:=[I x.setup.slots,I x.setup.live,I x.setup.capacity,I x.setup.dead,I x.setup.limit,I x.setup.clock,I x.setup.fB,I x.setup.epoch,.sl 9 (x.arena.slots.map Slot.enc),.sl 4 (x.arena.bU.map aJ.enc),I x.arena.dead.owner,I x.arena.dead.dead.cap,.sl 7 (x.arena.dead.dead.l.map ai.enc),I x.arena.dir.version,.sl 3 (x.arena.dir.l.map Span.enc),.sl 1 (encI x.arena.dir.aM),I x.arena.epoch,I x.arena.clock,I x.arena.fB,.sl 63 (x.tasks.map Task.enc),.sl 10 lg,I x.steps,.sl 1 (bW x.handles)]
theorem aoG (w:aH) (b:Int) (hl:w.log.length<=5000000):Fn Tryz.prog 175 [.agg w.enc,I b] [] (.aF [.agg (w.tick b).1.enc,I (w.tick b).2]) [] []:=by
 have hn:=ams w.arena b
 unfold aH.tick
 generalize w.arena.tick b=x at hn
 have mx:∀ j:Nat,j<=10000000->j<=maxLen:=fun j h=>Nat.le_trans h (by decide)
 have m1:=mx w.log.length (by omega)
 have m2:=mx (w.log.length+1) (by omega)
 clear mx
 by_cases e:x.2≠0
 ·rw [if_pos e]
  have e':(x.2 !=0)=true:=by simpa using e
  refine Fn.aT bR aaz (by simp) ?_
  unfold Mt SC.mk' aH.enc
  simp only [go_sem]
  have hJ:=e'
  exact aZ
 ·rw [if_neg e]
  have e':(x.2 !=0)=false:=by simpa using e
  refine Fn.nw (r:= .aF [.agg (aH.adA {w with steps:=IntKind.i64.wrap (w.steps+1),arena:=x.1} (w.log.map Ev.enc++[[I (IntKind.i64.wrap (w.steps+1)),I 0,I 0,I 1,I x.1.clock,I 0,I 0,Nl,I 0,I 0]])),I 0]) ?_ ?_
  ·generalize hs:IntKind.i64.wrap (w.steps+1)=s
   refine Fn.aT bR aaz (by simp) ?_
   unfold Mt SC.mk' aH.enc
   simp only [go_sem]
   have hJ:=ah e' (ah hs (ah m1 m2))
   repeat' first
    |(first|refine sC ?_|refine sD ?_|refine sZ ?_|refine sY ?_|refine sF ?_);simp only [hJ,go_sem]
    |(first|refine bC (fun hq=> ?_) (fun hq=> ?_)|refine dR (fun hq=> ?_) (fun hq=> ?_)|refine dD (fun hq=> ?_) (fun hq=> ?_))<;>simp only [hq,hJ,go_sem]
    |refine sM ?_;simp only [ay,rv,au,get,hJ,go_sem]
    |refine bn ?_
    |fail
   all_goals clear hJ
   all_goals (first|rfl|simp_all [rv,au,get,aH.adA,aj.enc,Setup.enc]<;>try rfl)
  ·have hE:NW (.sl 10 (w.log.map Ev.enc++[[I (IntKind.i64.wrap (w.steps+1)),I 0,I 0,I 1,I x.1.clock,I 0,I 0,Nl,I 0,I 0]])) (.sl 10 (w.log.map Ev.enc++[Ev.enc {Ev.z with stamp:=IntKind.i64.wrap (w.steps+1),kind:=1,now:=x.1.clock}])):=
    NW.snoc _ (by repeat first|exact lK.cons (.nl 4) (.refl _)|refine lK.c ?_)
   refine .aF rfl (lK.cons ?_ (.refl _)).2
   refine .agg rfl (lK.cons (.refl _) ?_).2
   simp only [List.map_append,List.map_cons,List.map_nil]
   repeat first|exact lK.cons hE (.refl _)|refine lK.c ?_
end Go.Eng
namespace Go.Eng
open Go
section
variable {n m:Nat} {w:aH}
theorem aH.aoH {u:Setup} (e:(aH.new u).2=0):(aj.new u).2=0/\(aH.new u).1={aH.z with setup:=u,arena:=(aj.new u).1}:=by
 unfold aH.new at e ⊢
 split
 ·rename_i hc;rw [if_pos hc] at e;exact absurd e hc
 ·rename_i hc;exact ⟨Decidable.not_not.1 hc,rfl⟩
theorem adB {k:Int}:∀ (f:Nat) {m:Nat} {w:aH},w.wf n m->w.aW->m+f<=1000000->(qo k f w).2=0->(qo k f w).1.aW
 |0,m,w,h,hl,_,_=>hl
 |f+1,m,w,h,hl,hm,e=>by
  simp only [qo] at e ⊢
  split
  ·exact hl
  ·rename_i hc;rw [if_neg hc] at e
   split
   ·rename_i hd;rw [if_pos hd] at e;exact absurd e hd
   ·rename_i hd;rw [if_neg hd] at e
    exact adB f (aH.Wi h (by omega) (Decidable.not_not.1 hd)) (aH.ade h hl (Decidable.not_not.1 hd)) (by omega) e
theorem aH.aoI (h:w.wf n m) (hl:w.aW) (hm:m+256<=1000000) {c:bG} (e:(w.ni c).2=0):(w.ni c).1.aW:=by
 unfold aH.ni at e ⊢
 simp only at e ⊢
 split
 ·rename_i hc;rw [if_pos hc] at e
  have hb:(max 0 (min c.dM 255)).toNat<=255:=by omega
  exact adB _ h hl (by omega) e
 rename_i hc;rw [if_neg hc] at e;clear hc
 split
 ·rename_i hc;rw [if_pos hc] at e
  split
  ·rename_i hd
   exact aH.WW h hl (by simpa using hd)
  ·exact hl
 rename_i hc;rw [if_neg hc] at e;clear hc
 have key:∀ v:bM,(if ((w.invoke v).2.2==0)=true then ((w.invoke v).1,(0:Int)) else (w,0)).1.aW:=by
  intro v
  split
  ·rename_i hd
   exact aH.ani h hl (by simpa using hd)
  ·exact hl
 split
 ·exact key _
 ·exact hl
end
theorem DX (a:aj) (t:Task) (k:Int):(t.go a k).2.1.results.length<=t.results.length:=by
 unfold Task.go
 simp only
 split
 ·exact Nat.zero_le _
 ·exact Nat.le_refl _
theorem zy (t:Task) (r:aV) (k:Int):(t.next r k).results.length=t.results.length+1:=by simp [Task.next]
theorem aoJ (t:Task):(l8 t).1.results=t.results:=by
 unfold l8;simp only;repeat' split
 all_goals rfl
theorem aoK (t:Task):(jV t).1.results=t.results:=by
 unfold jV;simp only;repeat' split
 all_goals rfl
theorem aoL (t:Task):(l9 t).1.results=t.results:=by
 unfold l9;simp only;repeat' split
 all_goals rfl
theorem aoM (t:Task):(mh t).1.results=t.results:=by
 unfold mh;simp only;repeat' split
 all_goals rfl
section
variable (a:aj) (t:Task) (k:Int)
theorem aoN:(oK a t k).2.1.results.length<=t.results.length+1:=by
 have g:=DX a t k
 unfold oK;simp only;repeat' split
 all_goals simp only [dN,zy,aoJ,Task.look,Task.eU,List.length_nil]<;>omega
theorem aoO:(oL a t k).2.1.results.length<=t.results.length+1:=by
 have g:=DX a t k
 unfold oL;simp only;repeat' split
 all_goals simp only [dN,zy,aoK,Task.look,Task.eU,List.length_nil]<;>omega
theorem aoP:(mg a t k).2.1.results.length<=t.results.length+1:=by
 have g:=DX a t k
 unfold mg;simp only;repeat' split
 all_goals simp only [dN,zy,aoL,Task.look,Task.eU,List.length_nil]<;>omega
theorem aoQ:(oM a t k).2.1.results.length<=t.results.length+1:=by
 unfold oM;simp only;repeat' split
 all_goals simp only [dN,zy,List.length_nil]<;>omega
theorem aoR:(oN a t k).2.1.results.length<=t.results.length+1:=by
 unfold oN;simp only;repeat' split
 all_goals simp only [dN,zy,List.length_nil]<;>omega
theorem aoS:(oO a t k).2.1.results.length<=t.results.length+1:=by
 have g:=DX a t k
 unfold oO;simp only;repeat' split
 all_goals simp only [dN,zy,aoM,Task.eU,List.length_nil]<;>omega
theorem aoT (p:Task->qY) (lo hi:Int) (c:Task->List Int):(jB p lo hi c a t k).2.1.results.length<=t.results.length+1:=by
 unfold jB;simp only
 split
 ·exact Nat.zero_le _
 have g:((if t.pc==0 then t.eU (c t) 1 else t).go a k).2.1.results.length<=t.results.length:=by
  have:=DX a (if t.pc==0 then t.eU (c t) 1 else t) k
  have e:(if t.pc==0 then t.eU (c t) 1 else t).results=t.results:=by split<;>rfl
  rw [e] at this;exact this
 generalize (if t.pc==0 then t.eU (c t) 1 else t).go a k=x at g ⊢
 repeat' split
 all_goals simp only [dN,zy,Task.dec,List.length_nil]<;>omega
theorem aoU {N:Nat} {c:Prop} [Decidable c] {x y:gF} (h1:x.2.1.results.length<=N) (h2:y.2.1.results.length<=N):(if c then x else y).2.1.results.length<=N:=by
 split
 ·exact h1
 ·exact h2
theorem aoV:(eX a t k).2.1.results.length<=t.results.length+1:=by
 unfold eX
 repeat' (with_reducible refine aoU ?_ ?_)
 all_goals first|exact Nat.zero_le _|exact aoN a t k|exact aoO a t k|exact aoP a t k|exact aoQ a t k|exact aoR a t k|exact aoS a t k|exact aoT a t k _ _ _ _
end
end Go.Eng
namespace Go.Eng
open Go Go.Proofs
attribute [local go_sem] aj.enc av.enc Task.enc Ev.enc bD.enc bf.enc cB.enc Dead.enc Dir.enc ak.enc Walk.enc aV.enc aJ.enc bL.enc Setup.enc aS dY dZ List.length_map
theorem adC (w:aH) (i:bM) (hl:w.tasks.length<=1000):Fn Tryz.prog 32 [.agg w.enc,.agg i.enc] [] (.aF [.agg (w.invoke i).1.enc,I (w.invoke i).2.1,I (w.invoke i).2.2]) [] []:=by
 generalize hR:w.invoke i=R
 unfold aH.invoke at hR
 simp only at hR
 have ho:=Xr w hl
 have mx:∀ j:Nat,j<=10000->j<=maxLen:=fun j h=>Nat.le_trans h (by decide)
 have m1:=mx w.tasks.length (by omega)
 have m2:=mx (w.tasks.length+1) (by omega)
 clear mx
 have hw:=bE (n:=(w.tasks.length:Int)+1) (by omega)
 have hs:=aoF ((w.tasks.length:Int)+1) i w.setup w.steps
 have hoL:w.opn.length<=w.tasks.length:=Wd _ _
 generalize w.opn=o at hR ho hoL
 generalize Task.start ((w.tasks.length:Int)+1) i w.setup w.steps=x at hR hs
 refine Fn.aT bR ok32 (by simp) ?_
 unfold Qg SC.mk' aH.enc bM.enc
 simp only [go_sem]
 have hJ:=ah hw (ah m1 m2)
 repeat' first
  |(first|refine sC ?_|refine sD ?_|refine sZ ?_|refine sY ?_|refine sF ?_);simp only [hJ,Setup.enc,bM.enc,aH.enc,go_sem]
  |(first|refine bC (fun hq=> ?_) (fun hq=> ?_)|refine dR (fun hq=> ?_) (fun hq=> ?_)|refine dD (fun hq=> ?_) (fun hq=> ?_))<;>simp only [hq,hJ,Setup.enc,bM.enc,aH.enc,go_sem]
  |refine sM ?_;simp only [ay,rv,au,get,hJ,Setup.enc,bM.enc,aH.enc,go_sem]
  |refine bn ?_
  |fail
 all_goals clear hJ
 all_goals clear ho hs hoL m1 m2 hw
 all_goals (subst hR;first|rfl|simp_all [rv,au,get,aH.enc,av.enter,aj.enc,av.enc,Task.enc,Ev.enc,bD.enc,bf.enc,cB.enc,Dead.enc,Dir.enc,ak.enc,Walk.enc,aV.enc,aJ.enc,-Int.not_lt,-Int.not_le]<;>try rfl)
theorem aoW (w:aH) (i:Nat) (hi:i<w.tasks.length) (hd:(gT w.tasks i).dn=false) {n m:Nat} (h:w.wf n m) (hl:w.aW) (hm:m<=1000000):Fn Tryz.prog 83 [.agg w.enc,I i] [] (.aF [.agg (w.step i).1.enc,I (w.step i).2]) [] []:=by
 generalize hR:w.step i=R
 unfold aH.step at hR
 simp only at hR
 have hmem:=Wh hi
 have hwf:=(h.tk _ hmem).resolve_left (by simp [hd])
 have nD:=(hl.tk _ hmem).resolve_left (by simp [hd])
 have hst:=aoC w.arena (gT w.tasks i) (IntKind.i64.wrap (w.steps+1)) h.ar hl.ar hwf nD hd
 have hrs:=aoV w.arena (gT w.tasks i) (IntKind.i64.wrap (w.steps+1))
 have hok:=fun e=>ab7 (k:=IntKind.i64.wrap (w.steps+1)) h.ar hwf hd e
 have hx:nth (w.tasks.map Task.enc) i=Task.enc (gT w.tasks i):=bS Task.enc Task.z hi
 have htl:=h.tl
 have hlg:=h.lg
 have hhl:=h.hl
 have hre:=nD.re
 have hen:=nD.en
 have he6:=nD.e6
 generalize gT w.tasks i=t at hR hst hrs hok hx hre hen he6
 generalize hs:IntKind.i64.wrap (w.steps+1)=sn at hR hst hrs hok
 generalize eX w.arena t sn=x at hR hst hrs hok
 have mx:∀ j:Nat,j<=10000000->j<=maxLen:=fun j h=>Nat.le_trans h (by decide)
 by_cases e:x.2.2.2≠0
 ·rw [if_pos e] at hR
  have e':(x.2.2.2 !=0)=true:=by simpa using e
  subst hR
  refine Fn.aT bR Md (by simp) ?_
  unfold s83 SC.mk' aH.enc
  simp only [hx,hs,Task.enc,Int.toNat_natCast,List.length_map,go_sem]
  repeat (refine bn ?_)
  have hJ:=ah e' hs
  exact aZ
 ·rw [if_neg e] at hR
  have e':(x.2.2.2 !=0)=false:=by simpa using e
  have hev:=(hok (Decidable.not_not.1 e)).ev
  have hrk:=(hok (Decidable.not_not.1 e)).rs
  have m1:=mx w.tasks.length (by omega)
  have m2:=mx w.log.length (by omega)
  have m3:=mx (w.log.length+x.2.2.1.length) (by omega)
  have m4:∀ j,j<=6->w.handles.length+j<=maxLen:=fun j hj=>mx _ (by omega)
  have hrl:x.2.1.results.length<=7:=by omega
  refine Fn.aT bR Md (by simp) ?_
  unfold s83 SC.mk' aH.enc
  simp only [hx,hs,Task.enc,Int.toNat_natCast,List.length_map,go_sem]
  repeat (refine bn ?_)
  have hJ:=ah e' (ah hs (ah hx (ah m1 (ah m2 m3))))
  repeat' first
   |(first|refine sC ?_|refine sD ?_|refine sZ ?_|refine sY ?_|refine sF ?_);simp only [hJ,Task.enc,aj.enc,go_sem]
   |(first|refine bC (fun hq=> ?_) (fun hq=> ?_)|refine dR (fun hq=> ?_) (fun hq=> ?_)|refine dD (fun hq=> ?_) (fun hq=> ?_))<;>simp only [hq,hJ,Task.enc,aj.enc,go_sem]
   |refine sM ?_;simp only [ay,rv,au,get,hJ,Task.enc,aj.enc,go_sem]
   |refine bn ?_
   |fail
  all_goals clear hJ
  generalize hH:w.handles++((x.2.1.results.drop t.results.length).map aV.tokens).flatten=H at hR
  have hHl:H.length<=w.handles.length+6:=by rw [<-hH];simp only [List.length_append];omega
  have hset:(w.tasks.map Task.enc).set i x.2.1.enc=List.take w.tasks.length ((w.tasks.map Task.enc).set i x.2.1.enc):=(bA (by simp)).symm
  have htk:∀ r:aV,r ∈ x.2.1.results.drop t.results.length->r.tokens.length<=6:=by
   intro r hr
   have h1:r.tokens ∈ (x.2.1.results.drop t.results.length).map aV.tokens:=List.mem_map_of_mem hr
   have h2:∀ (l:List (List (List UInt8))),r.tokens ∈ l->r.tokens.length<=l.flatten.length:=by
    intro l
    induction l with
    |nil=>intro h;simp at h
    |cons a l ih=>
     intro h
     simp only [List.flatten_cons,List.length_append]
     rcases List.mem_cons.1 h with rfl|h
     ·omega
     ·have:=ih h;omega
   have:=h2 _ h1
   omega
  rcases hE:x.2.2.1 with _|⟨ev,evs⟩
  ·simp only [hE,List.length_nil,Nat.add_zero,Nat.le_refl,if_true,List.map_nil,List.nil_append,go_sem]
   have hJ:=ah e' (ah hs (ah hx (ah m1 (ah m2 m3))))
   repeat' first
    |(first|refine sC ?_|refine sD ?_|refine sZ ?_|refine sY ?_|refine sF ?_);simp only [hJ,Task.enc,aj.enc,go_sem]
    |(first|refine bC (fun hq=> ?_) (fun hq=> ?_)|refine dR (fun hq=> ?_) (fun hq=> ?_)|refine dD (fun hq=> ?_) (fun hq=> ?_))<;>simp only [hq,hJ,Task.enc,aj.enc,go_sem]
    |refine sM ?_;simp only [ay,rv,au,get,hJ,Task.enc,aj.enc,go_sem]
    |refine bn ?_
    |fail
   all_goals clear hJ
   refine go_loop (fun y:{y:Nat×List (List UInt8) // t.results.length<=y.1/\y.2++((x.2.1.results.drop y.1).map aV.tokens).flatten=H}=>⟨5000,[(2,.ptr 8 0),(4,.ptr 16 0),(8,.ptr 192 0),(11,I y.1.1)],[(8,.box (aH.enc ⟨w.setup,x.1,w.tasks.set i x.2.1,w.log++x.2.2.1,sn,y.1.2⟩)),(16,.box [I 0,I 0,I 0,I 0,I 0,I 0,I 0,I 0,Nl,Nl,I 0,I 0,Nl,I 0,Nl,Nl,I 0,I 0,I 0,Nl,Nl,I 0,Nl]),(192,.box (Task.enc x.2.1))]⟩) (fun y=>x.2.1.results.length - y.1.1) ⟨(t.results.length,w.handles),Nat.le_refl _,hH⟩ (Wk.mk [(8,8),(16,16),(192,192)] [] rfl rfl (by simp only [cZ,bO,au,rv,aH.enc,Task.enc,go_sem]<;>(try simp [hE])<;>first|exact hset|exact ⟨hset,(bA (l:=w.log.map Ev.enc++Ev.enc ev::evs.map Ev.enc) (i:=w.log.length+(evs.length+1)) (by simp)).symm⟩) trivial (by simp only [eG,rv,au,go_sem]<;>try simp)) ?_
   rintro ⟨⟨j,hs'⟩,hj,he⟩ B hB
   simp only at hj he
   simp only [aH.enc,Task.enc,List.length_map,go_sem]
   by_cases e1:j<x.2.1.results.length
   ·have e2:decide ((j:Int)<(x.2.1.results.length:Int))=true:=by simp;omega
    have hw:=bT (show j<=100000 by omega)
    rw [eB aV.z e1,List.map_cons,List.flatten_cons] at he
    have zA:nth (x.2.1.results.map aV.enc) j=aV.enc (x.2.1.results[j]?.getD aV.z):=bS aV.enc aV.z e1
    have hin:x.2.1.results[j]?.getD aV.z ∈ x.2.1.results.drop t.results.length:=by
     rw [List.getElem?_eq_getElem e1]
     exact List.mem_drop_iff_getElem.2 ⟨j - t.results.length,by omega,by simp only [Option.getD_some];congr 1;omega⟩
    have htk:=htk _ hin
    generalize x.2.1.results[j]?.getD aV.z=r at he zA htk
    have xu:hs'.length+r.tokens.length<=w.handles.length+6:=by
     have:(hs'++(r.tokens++((x.2.1.results.drop (j+1)).map aV.tokens).flatten)).length<=w.handles.length+6:=by rw [he];exact hHl
     simp only [List.length_append] at this
     omega
    have n1:=mx hs'.length (by omega)
    have n2:=mx (hs'.length+r.tokens.length) (by omega)
    have t1:List.take hs'.length (bW hs')=bW hs':=bA (by simp [bW])
    rcases hT:r.tokens with _|⟨tk,rD⟩
    ·simp only [e2,zA,hw,hT,t1,aV.enc,Int.toNat_natCast,dZ,List.length_map,List.length_nil,Nat.add_zero,Nat.le_refl,if_true,go_sem]
     repeat (refine bn ?_)
     have he2:hs'++((x.2.1.results.drop (j+1)).map aV.tokens).flatten=H:=by rw [hT] at he;simpa using he
     exact hB _ ⟨(j+1,hs'),by simp only;omega,he2⟩ (by simp only;omega) (Wk.mk [(8,8),(16,16),(192,192)] [] rfl rfl (by simp only [cZ,bO,au,rv,aH.enc,Task.enc,go_sem]<;>(try simp [bW])) trivial (by simp only [eG,rv,au,go_sem]<;>try simp))
    ·simp only [e2,zA,hw,hT,t1,aV.enc,Int.toNat_natCast,dZ,List.length_map,List.length_cons,show ¬ (hs'.length+(rD.length+1)<=hs'.length) from by omega,if_false,go_sem]
     rw [hT] at n2
     simp only [List.length_cons] at n2
     rw [hT] at xu
     simp only [List.length_cons] at xu
     repeat (refine bn ?_)
     have he2:(hs'++tk::rD)++((x.2.1.results.drop (j+1)).map aV.tokens).flatten=H:=by rw [hT] at he;simpa using he
     exact hB _ ⟨(j+1,hs'++tk::rD),by simp only;omega,he2⟩ (by simp only;omega) (Wk.mk [(8,8),(16,16),(192,192)] [] rfl rfl (by simp only [cZ,bO,au,rv,aH.enc,Task.enc,go_sem]<;>(try simp [bW])<;>exact (bA (i:=hs'.length+(rD.length+1)) (l:=List.map (fun b=>[gK b]) hs'++[gK tk]::List.map (fun b=>[gK b]) rD) (by simp)).symm) trivial (by simp only [eG,rv,au,go_sem]<;>try simp))
   ·have e2:decide ((j:Int)<(x.2.1.results.length:Int))=false:=by simp;omega
    rw [eH (by omega)] at he
    simp only [List.map_nil,List.flatten_nil,List.append_nil] at he
    subst he
    subst hR
    simp only [e2,go_sem]
    exact Fin.aD _ rfl rfl (by simp only [ay,rv,au,get,aH.enc,go_sem]<;>simp)
  ·rw [hE] at m3
   simp only [List.length_cons] at m3
   simp only [hE,List.length_cons,show ¬ (w.log.length+(evs.length+1)<=w.log.length) from by omega,if_false,List.map_cons,go_sem]
   rw [hE] at hev
   simp only [List.length_cons] at hev
   refine ⟨⟨by omega,Nat.le_refl _⟩,?_⟩
   have hJ:=ah e' (ah hs (ah hx (ah m1 (ah m2 m3))))
   repeat' first
    |(first|refine sC ?_|refine sD ?_|refine sZ ?_|refine sY ?_|refine sF ?_);simp only [hJ,Task.enc,aj.enc,go_sem]
    |(first|refine bC (fun hq=> ?_) (fun hq=> ?_)|refine dR (fun hq=> ?_) (fun hq=> ?_)|refine dD (fun hq=> ?_) (fun hq=> ?_))<;>simp only [hq,hJ,Task.enc,aj.enc,go_sem]
    |refine sM ?_;simp only [ay,rv,au,get,hJ,Task.enc,aj.enc,go_sem]
    |refine bn ?_
    |fail
   all_goals clear hJ
   refine go_loop (fun y:{y:Nat×List (List UInt8) // t.results.length<=y.1/\y.2++((x.2.1.results.drop y.1).map aV.tokens).flatten=H}=>⟨5000,[(2,.ptr 8 0),(4,.ptr 16 0),(8,.ptr 192 0),(11,I y.1.1)],[(8,.box (aH.enc ⟨w.setup,x.1,w.tasks.set i x.2.1,w.log++x.2.2.1,sn,y.1.2⟩)),(16,.box [I 0,I 0,I 0,I 0,I 0,I 0,I 0,I 0,Nl,Nl,I 0,I 0,Nl,I 0,Nl,Nl,I 0,I 0,I 0,Nl,Nl,I 0,Nl]),(192,.box (Task.enc x.2.1))]⟩) (fun y=>x.2.1.results.length - y.1.1) ⟨(t.results.length,w.handles),Nat.le_refl _,hH⟩ (Wk.mk [(8,8),(16,16),(192,192)] [] rfl rfl (by simp only [cZ,bO,au,rv,aH.enc,Task.enc,go_sem]<;>(try simp [hE])<;>first|exact hset|exact ⟨hset,(bA (l:=w.log.map Ev.enc++Ev.enc ev::evs.map Ev.enc) (i:=w.log.length+(evs.length+1)) (by simp)).symm⟩) trivial (by simp only [eG,rv,au,go_sem]<;>try simp)) ?_
   rintro ⟨⟨j,hs'⟩,hj,he⟩ B hB
   simp only at hj he
   simp only [aH.enc,Task.enc,List.length_map,go_sem]
   by_cases e1:j<x.2.1.results.length
   ·have e2:decide ((j:Int)<(x.2.1.results.length:Int))=true:=by simp;omega
    have hw:=bT (show j<=100000 by omega)
    rw [eB aV.z e1,List.map_cons,List.flatten_cons] at he
    have zA:nth (x.2.1.results.map aV.enc) j=aV.enc (x.2.1.results[j]?.getD aV.z):=bS aV.enc aV.z e1
    have hin:x.2.1.results[j]?.getD aV.z ∈ x.2.1.results.drop t.results.length:=by
     rw [List.getElem?_eq_getElem e1]
     exact List.mem_drop_iff_getElem.2 ⟨j - t.results.length,by omega,by simp only [Option.getD_some];congr 1;omega⟩
    have htk:=htk _ hin
    generalize x.2.1.results[j]?.getD aV.z=r at he zA htk
    have xu:hs'.length+r.tokens.length<=w.handles.length+6:=by
     have:(hs'++(r.tokens++((x.2.1.results.drop (j+1)).map aV.tokens).flatten)).length<=w.handles.length+6:=by rw [he];exact hHl
     simp only [List.length_append] at this
     omega
    have n1:=mx hs'.length (by omega)
    have n2:=mx (hs'.length+r.tokens.length) (by omega)
    have t1:List.take hs'.length (bW hs')=bW hs':=bA (by simp [bW])
    rcases hT:r.tokens with _|⟨tk,rD⟩
    ·simp only [e2,zA,hw,hT,t1,aV.enc,Int.toNat_natCast,dZ,List.length_map,List.length_nil,Nat.add_zero,Nat.le_refl,if_true,go_sem]
     repeat (refine bn ?_)
     have he2:hs'++((x.2.1.results.drop (j+1)).map aV.tokens).flatten=H:=by rw [hT] at he;simpa using he
     exact hB _ ⟨(j+1,hs'),by simp only;omega,he2⟩ (by simp only;omega) (Wk.mk [(8,8),(16,16),(192,192)] [] rfl rfl (by simp only [cZ,bO,au,rv,aH.enc,Task.enc,go_sem]<;>(try simp [bW])) trivial (by simp only [eG,rv,au,go_sem]<;>try simp))
    ·simp only [e2,zA,hw,hT,t1,aV.enc,Int.toNat_natCast,dZ,List.length_map,List.length_cons,show ¬ (hs'.length+(rD.length+1)<=hs'.length) from by omega,if_false,go_sem]
     rw [hT] at n2
     simp only [List.length_cons] at n2
     rw [hT] at xu
     simp only [List.length_cons] at xu
     repeat (refine bn ?_)
     have he2:(hs'++tk::rD)++((x.2.1.results.drop (j+1)).map aV.tokens).flatten=H:=by rw [hT] at he;simpa using he
     exact hB _ ⟨(j+1,hs'++tk::rD),by simp only;omega,he2⟩ (by simp only;omega) (Wk.mk [(8,8),(16,16),(192,192)] [] rfl rfl (by simp only [cZ,bO,au,rv,aH.enc,Task.enc,go_sem]<;>(try simp [bW])<;>exact (bA (i:=hs'.length+(rD.length+1)) (l:=List.map (fun b=>[gK b]) hs'++[gK tk]::List.map (fun b=>[gK b]) rD) (by simp)).symm) trivial (by simp only [eG,rv,au,go_sem]<;>try simp))
   ·have e2:decide ((j:Int)<(x.2.1.results.length:Int))=false:=by simp;omega
    rw [eH (by omega)] at he
    simp only [List.map_nil,List.flatten_nil,List.append_nil] at he
    subst he
    subst hR
    simp only [e2,go_sem]
    exact Fin.aD _ rfl rfl (by simp only [ay,rv,au,get,aH.enc,go_sem]<;>simp)
theorem aoY (w:aH) (k:Int) {n m:Nat} (h:w.wf n m) (hl:w.aW) (hm:m<=1000000):Fn Tryz.prog 174 [.agg w.enc,I k] [] (.aF [.agg (w.pick k).1.enc,I (w.pick k).2]) [] []:=by
 generalize hR:w.pick k=R
 unfold aH.pick at hR
 have htl:=h.tl
 have ho:=Xr w (by omega)
 have hin:=Nr w.tasks 0
 change ∀ x ∈ w.opn,_ at hin
 by_cases c1:(decide (k<0)||decide ((w.opn.length:Int)<=k))=true
 ·rw [if_pos c1] at hR
  subst hR
  generalize w.opn=o at ho c1
  by_cases c2:k<0
  ·have c2':decide (k<0)=true:=by simpa using c2
   refine Fn.aT bR RN (by simp) ?_
   unfold C8 SC.mk' aH.enc
   simp only [go_sem]
   have hJ:=ah c2' aH.enc.eq_1
   exact aZ
  ·have c2':decide (k<0)=false:=by simpa using c2
   have c3:decide ((o.length:Int)<=k)=true:=by simpa [c2'] using c1
   refine Fn.aT bR RN (by simp) ?_
   unfold C8 SC.mk' aH.enc
   simp only [go_sem]
   have hJ:=ah c2' (ah c3 aH.enc.eq_1)
   exact aZ
 ·rw [if_neg c1] at hR
  simp only [Bool.not_eq_true,Bool.or_eq_false_iff] at c1
  obtain ⟨c2,c3⟩:=c1
  have d2:¬ k<0:=by simpa using c2
  have d3:¬ (w.opn.length:Int)<=k:=by simpa using c3
  have hx:gI w.opn k.toNat ∈ w.opn:=by
   unfold gI;rw [List.getElem?_eq_getElem (by omega)];exact List.getElem_mem _
  have hnt:nth (encI w.opn) k.toNat=[I (gI w.opn k.toNat)]:=ajF (by omega)
  obtain ⟨j,h1,h2,h3⟩:=hin _ hx
  have h1':gI w.opn k.toNat=(j:Int):=by rw [h1];omega
  have hst:=aoW w j h2 h3 h hl hm
  rw [h1',Int.toNat_natCast] at hR
  rw [h1'] at hnt
  generalize w.step j=y at hR hst
  subst hR
  generalize w.opn=o at ho c3 d3 hnt
  refine Fn.aT bR RN (by simp) ?_
  unfold C8 SC.mk' aH.enc
  simp only [go_sem]
  have hJ:=ah c2 (ah c3 hnt)
  repeat' first
   |(first|refine sC ?_|refine sD ?_|refine sZ ?_|refine sY ?_|refine sF ?_);simp only [hJ,aH.enc,go_sem]
   |(first|refine bC (fun hq=> ?_) (fun hq=> ?_)|refine dR (fun hq=> ?_) (fun hq=> ?_)|refine dD (fun hq=> ?_) (fun hq=> ?_))<;>simp only [hq,hJ,aH.enc,go_sem]
   |refine sM ?_;simp only [ay,rv,au,get,hJ,aH.enc,go_sem]
   |refine bn ?_
   |fail
  all_goals clear hJ
  done
end Go.Eng
namespace Go.Eng
open Go
theorem aoZ:∀ s ∈ [(1:Int),2,3,4,5,6],∀ l ∈ [(1:Int),2,3,4,5,6],l<=s->(Dir.new s l).1.val=0/\(Dir.new s l).1.aM.length=s.toNat:=by decide
theorem Setup.ao0 {u:Setup} (h:u.good=true):(1<=u.slots/\u.slots<=6)/\(1<=u.live/\u.live<=u.slots)/\(1<=u.limit/\u.limit<=8):=by
 unfold Setup.good at h
 simp only [Bool.and_eq_true] at h
 obtain ⟨g1,g2,g3,g4,g5,g6,g7,g8⟩:=h
 exact ⟨by simpa [dP] using g1,by simpa [dP] using g2,by simpa [dP] using g5⟩
theorem aH.ao1 {u:Setup} (e:(aH.new u).2=0):∃ n,(aH.new u).1.wf n 0/\(aH.new u).1.aW:=by
 have hz:=aH.aoH e
 have hg:u.good=true:=by
  have:=hz.1
  unfold aj.new at this
  split at this
  ·cases this
  ·rename_i hc;simpa using hc
 obtain ⟨h1,h2,h3⟩:=Setup.ao0 hg
 have hd:=aoZ u.slots (by simp;omega) u.live (by simp;omega) h2.2
 have hl:=aj.NM u
 refine ⟨u.slots.toNat,?_⟩
 rw [hz.2]
 refine ⟨⟨⟨hg,by simp only;omega⟩,?_,(fun t ht=>by cases ht),Nat.zero_le _,Int.le_refl _,Int.le_refl _,Nat.zero_le _,Nat.zero_le _⟩,hl,(fun t ht=>by cases ht)⟩
 unfold aj.new
 rw [if_neg (by simp [hg])]
 exact ⟨by omega,by omega,by simp,by simp,hd.1,hd.2⟩
end Go.Eng
