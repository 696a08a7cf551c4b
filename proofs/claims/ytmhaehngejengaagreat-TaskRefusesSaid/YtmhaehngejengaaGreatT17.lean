/-
  Part of a proof: lemmas and definitions of this work.
  No condition.
-/
import Derived.Test.YtmhaehngejengaaGreatA12
import Derived.Test.YtmhaehngejengaaGreatA32
import Derived.Test.YtmhaehngejengaaGreatT05
import Derived.Test.YtmhaehngejengaaGreatT06
import Derived.Test.YtmhaehngejengaaGreatT07
import Derived.Test.YtmhaehngejengaaGreatT09
import Derived.Test.YtmhaehngejengaaGreatT10
import Derived.Test.YtmhaehngejengaaGreatT11
import Derived.Test.YtmhaehngejengaaGreatT12
import Derived.Test.YtmhaehngejengaaGreatT14
import Derived.Test.YtmhaehngejengaaGreatT15
import Derived.Test.YtmhaehngejengaaGreatT16
import Derived.Test.YtmhaehngejengaaGreatA29
set_option linter.all false
set_option maxRecDepth 100000
set_option maxHeartbeats 8000000
namespace Go.Eng
open Go Go.Proofs
theorem ap0 (a:ak) (t:Task) (k:Int) {n:Nat} (ha:a.wf n) (hal:a.aW) (ht:t.wf n) (hl:t.aW) (hd:t.dn=false):Fn Tryz.prog 199 [.agg a.enc,.agg t.enc,I k] [] (dW (fK a t k)) [] []:=by
 by_cases h0:t.inv.kind<1∨14<t.inv.kind
 ·have e:fK a t k=fO 9:=by
   unfold fK
   have:∀ j:Int,1≤j→j≤14→(t.inv.kind==j)=false:=fun j h1 h2=>by simp;omega
   simp [hd,this]
  rw [e]
  exact apm a t k h0 hd
 have h:t.inv.kind=1∨t.inv.kind=2∨t.inv.kind=3∨t.inv.kind=4∨t.inv.kind=5∨t.inv.kind=6∨t.inv.kind=7∨t.inv.kind=8∨t.inv.kind=9∨t.inv.kind=10∨t.inv.kind=11∨t.inv.kind=12∨t.inv.kind=13∨t.inv.kind=14:=by omega
 rcases h with h|h|h|h|h|h|h|h|h|h|h|h|h|h
 ·rw [show fK a t k=qp a t k by unfold fK;simp [hd,h]]
  exact ao7 a t k h hd _ (ao6 a t k ha hal ht hl h hd)
 ·rw [show fK a t k=qw a t k by unfold fK;simp [hd,h]]
  exact ao8 a t k h hd _ (apJ a t k ha hal ht hl h hd)
 ·rw [show fK a t k=nO a t k by unfold fK;simp [hd,h]]
  exact ao9 a t k h hd _ (Ya a t k ha hal ht hl (by omega) (by omega) hd)
 ·rw [show fK a t k=nO a t k by unfold fK;simp [hd,h]]
  exact apa a t k h hd _ (Ya a t k ha hal ht hl (by omega) (by omega) hd)
 ·rw [show fK a t k=nO a t k by unfold fK;simp [hd,h]]
  exact apb a t k h hd _ (Ya a t k ha hal ht hl (by omega) (by omega) hd)
 ·rw [show fK a t k=qx a t k by unfold fK;simp [hd,h]]
  exact apc a t k h hd _ (apN a t k hl h hd)
 ·rw [show fK a t k=qy a t k by unfold fK;simp [hd,h]]
  exact apd a t k h hd _ (apO a t k ha hl h hd)
 ·rw [show fK a t k=qA a t k by unfold fK;simp [hd,h]]
  exact ape a t k h hd _ (apQ a t k ha hal ht hl h hd)
 ·rw [show fK a t k=AY a t k by unfold fK;simp [hd,h]]
  exact apf a t k h hd _ (apR a t k ha hal ht hl h hd)
 ·rw [show fK a t k=AZ a t k by unfold fK;simp [hd,h]]
  exact apg a t k h hd _ (apU a t k ha hal ht hl h hd)
 ·rw [show fK a t k=A7 a t k by unfold fK;simp [hd,h]]
  exact aph a t k h hd _ (apX a t k ha hal ht hl h hd)
 ·rw [show fK a t k=yZ a t k by unfold fK;simp [hd,h]]
  exact apj a t k h hd _ (adt a t k ha hal ht hl (.inl h) hd)
 ·rw [show fK a t k=yZ a t k by unfold fK;simp [hd,h]]
  exact apk a t k h hd _ (adt a t k ha hal ht hl (.inr h) hd)
 ·rw [show fK a t k=A8 a t k by unfold fK;simp [hd,h]]
  exact apl a t k h hd _ (apZ a t k ha hal ht hl h hd)
end Go.Eng
namespace Go.Eng
open Go Go.Proofs
attribute [local go_sem] ak.enc ax.enc Task.enc Ev.enc bG.enc bf.enc dG.enc Dead.enc Dir.enc aj.enc Walk.enc aV.enc aH.enc bT.enc Setup.enc aS fD fE List.length_map
theorem ap3 (m:Int) (i:bV) (u:Setup) (k:Int):Fn Tryz.prog 44 [I m,.agg i.enc,.agg u.enc,I k] [] (.aF [.agg (Task.start m i u k).1.enc,I (Task.start m i u k).2]) [] []:=by
 generalize hR:Task.start m i u k=R
 unfold Task.start at hR
 have hn:=adu u
 generalize ak.new u=x at hR hn
 have hv:=ao2 i u
 generalize i.val u=y at hR hv
 refine Fn.aT bY aaE (by simp) ?_
 unfold s44 SC.mk' bV.enc Setup.enc
 simp only [go_sem]
 have hJ:=trivial
 repeat' first
  |(first|refine sC ?_|refine sD ?_|refine sZ ?_|refine sY ?_|refine sF ?_);simp only [hJ,bV.enc,Setup.enc,go_sem]
  |(first|refine bF (fun hq=> ?_) (fun hq=> ?_)|refine dY (fun hq=> ?_) (fun hq=> ?_)|refine dL (fun hq=> ?_) (fun hq=> ?_))<;>simp only [hq,hJ,bV.enc,Setup.enc,go_sem]
  |refine sM ?_;simp only [ay,rv,au,get,hJ,bV.enc,Setup.enc,go_sem]
  |refine bn ?_
  |fail
 all_goals clear hJ
 all_goals clear hn hv
 all_goals exact fz
end Go.Eng
namespace Go.Eng
open Go Go.Proofs
theorem Yd (w:aK) (hl:w.tasks.length≤1000):Fn Tryz.prog 90 [.agg w.enc] [] (.sl 1 (encI w.opn)) [] []:=by
 generalize hR:w.opn=R
 unfold aK.opn at hR
 have mx:∀ j:Nat,j≤10000→j≤maxLen:=fun j h=>Nat.le_trans h (by decide)
 refine Fn.aN air (by simp) ?_
 unfold RJ SC.mk' aK.enc
 simp only [go_sem]
 refine go_loop (fun x:{x:Nat×List Int // x.1≤w.tasks.length∧x.2.length≤x.1∧x.2++Go.Eng.opn (w.tasks.drop x.1) x.1=R}=>⟨2000,[(1,.ptr 8 0),(2,Nl),(3,.own 1000 1 0 x.1.2.length),(4,I x.1.1)],[(8,.box [I w.setup.slots,I w.setup.live,I w.setup.capacity,I w.setup.dead,I w.setup.limit,I w.setup.clock,I w.setup.fQ,I w.setup.epoch,.sl 9 (w.arena.slots.map Slot.enc),.sl 4 (w.arena.cu.map aH.enc),I w.arena.dead.owner,I w.arena.dead.dead.cap,.sl 7 (w.arena.dead.dead.l.map ai.enc),I w.arena.dir.version,.sl 3 (w.arena.dir.l.map Span.enc),.sl 1 (encI w.arena.dir.aJ),I w.arena.epoch,I w.arena.clock,I w.arena.fQ,.sl 63 (w.tasks.map Task.enc),.sl 10 (w.log.map Ev.enc),I w.steps,.sl 1 (dm w.handles)]),(1000,.row 3 1 (encI x.1.2))]⟩) (fun x=>w.tasks.length - x.1.1) ⟨(0,[]),by omega,by simp,by simpa using hR⟩ (wk [(8,8)] [1000]) ?_
 rintro ⟨⟨j,out⟩,hj,ho,he⟩ B hB
 simp only at hj ho he
 simp only [go_sem]
 by_cases e1:j<w.tasks.length
 ·have e2:decide ((j:Int)<(w.tasks.length:Int))=true:=by simp;omega
  rw [eP Task.z e1] at he
  simp only [Go.Eng.opn] at he
  have hx:nth (w.tasks.map Task.enc) j=Task.enc (w.tasks[j]?.getD Task.z):=bZ Task.enc Task.z e1
  have hw:=cZ (show j≤100000 by omega)
  have hm1:=mx (out.length+1) (by omega)
  generalize w.tasks[j]?.getD Task.z=t at hx he
  have e3:List.take out.length (encI out)=encI out:=bD (by simp [encI])
  have e4:encI out++[[I (j:Int)]]=encI (out++[(j:Int)]):=by simp [encI]
  by_cases h2:t.dn=true
  ·rw [if_pos h2] at he
   simp only [e2,hx,hw,h2,Task.enc,Int.toNat_natCast,List.length_map,go_sem]
   repeat (refine bn ?_)
   exact hB _ ⟨(j+1,out),by simp only;omega,by simp only;omega,he⟩ (by simp only;omega) (wk [(8,8),(1000,1000)] [])
  ·rw [if_neg h2] at he
   simp only [Bool.not_eq_true] at h2
   simp only [e2,hx,hw,h2,e3,e4,Task.enc,aS,Int.toNat_natCast,List.length_map,go_sem]
   repeat (refine bn ?_)
   exact hB _ ⟨(j+1,out++[(j:Int)]),by simp only;omega,by simp;omega,by simpa using he⟩ (by simp only;omega) (wk [(8,8),(1000,2120)] [])
 ·have e2:decide ((j:Int)<(w.tasks.length:Int))=false:=by simp;omega
  rw [fF (by omega)] at he
  simp only [Go.Eng.opn,List.append_nil] at he
  have e4:List.take out.length (encI out)=encI out:=bD (by simp [encI])
  simp only [e2,List.length_map,go_sem]
  exact Fin.mk0 _ rfl rfl (by rw [←he];simp only [ay,rv,au,get,e4,aS,go_sem];simp)
end Go.Eng
namespace Go.Eng
open Go Go.Proofs
attribute [local go_sem] ak.enc ax.enc Task.enc Ev.enc bG.enc bf.enc dG.enc Dead.enc Dir.enc aj.enc Walk.enc aV.enc aH.enc bT.enc Setup.enc aS fD fE List.length_map
inductive NW:AV→AV→Prop
 |refl (x:AV):NW x x
 |nl (sz:Nat):NW Nl (.sl sz [])
 |agg {cs ds:List AV} (hl:cs.length=ds.length) (h:∀ (i:Nat) (c d:AV),cs[i]? =some c→ds[i]? =some d→NW c d):NW (.agg cs) (.agg ds)
 |aF {cs ds:List AV} (hl:cs.length=ds.length) (h:∀ (i:Nat) (c d:AV),cs[i]? =some c→ds[i]? =some d→NW c d):NW (.aF cs) (.aF ds)
 |sl {sz:Nat} {xs ys:List (List AV)} (hl:xs.length=ys.length) (hx:∀ (k:Nat) (x y:List AV),xs[k]? =some x→ys[k]? =some y→x.length=y.length)
  (h:∀ (k:Nat) (x y:List AV) (j:Nat) (c d:AV),xs[k]? =some x→ys[k]? =some y→x[j]? =some c→y[j]? =some d→NW c d):NW (.sl sz xs) (.sl sz ys)
theorem xC {α β:Type} {xs:List α} {ys:List β} (hl:xs.length=ys.length) {k:Nat} {y:β} (h:ys[k]? =some y):∃ x,xs[k]? =some x:=by
 have:=(List.getElem?_eq_some_iff.1 h).1
 exact ⟨_,List.getElem?_eq_getElem (by omega)⟩
theorem VP.nw {w:World} {ok:Nat→Prop} {x y:AV} (hn:NW x y):∀ {u:Value},VP w ok x u→VP w ok y u:=by
 induction hn with
 |refl x=>exact fun h=>h
 |nl sz=>intro u h;cases h;exact .iI
 |agg hl _ ih=>
  intro u h
  cases h with
  |agg h1 h2=>
   exact .agg (by omega) fun i d u hd hu=>by
    obtain ⟨c,hc⟩:=xC hl hd
    exact ih i c d hc hd (h2 i c u hc hu)
 |aF hl _ ih=>
  intro u h
  cases h with
  |aF h1 h2=>
   exact .aF (by omega) fun i d u hd hu=>by
    obtain ⟨c,hc⟩:=xC hl hd
    exact ih i c d hc hd (h2 i c u hc hu)
 | @sl sz xs ys hl hx _ ih=>
  intro u h
  cases h with
  |iI=>
   have:ys=[]:=by simpa using hl.symm
   subst this;exact .iI
  |sl a n cap f h1 h2 h3 h4 h5 h6=>
   refine .sl a n cap f (by omega) h2 (fun h=>h3 (by omega)) (fun k e he=> ?_) (fun k e j d he hd=> ?_) (fun k e j d he hd=> ?_)
   ·obtain ⟨x,hk⟩:=xC hl he
    rw [←hx k x e hk he];exact h4 k x hk
   ·obtain ⟨x,hk⟩:=xC hl he
    obtain ⟨c,hc⟩:=xC (hx k x e hk he) hd
    exact h5 k x j c hk hc
   ·obtain ⟨x,hk⟩:=xC hl he
    obtain ⟨c,hc⟩:=xC (hx k x e hk he) hd
    exact ih k x e j c d hk he hc hd (h6 k x j c hk hc)
theorem VR.nw {w:World} {ok:Nat→Prop} {ρ:Nat→Loc} {U:Nat→Prop} {x y:AV} (hn:NW x y):∀ {u:Value},VR w ok ρ U x u→VR w ok ρ U y u:=by
 induction hn with
 |refl x=>exact fun h=>h
 |nl sz=>intro u h;rw [h.dQ];exact .p .iI
 |agg hl _ ih=>
  intro u h
  obtain ⟨vs,rfl,h1,h2⟩:=h.BB
  exact .agg (by omega) fun i d u hd hu=>by
   obtain ⟨c,hc⟩:=xC hl hd
   exact ih i c d hc hd (h2 i c u hc hu)
 |aF hl _ ih=>
  intro u h
  obtain ⟨vs,rfl,h1,h2⟩:=h.Yg
  exact .aF (by omega) fun i d u hd hu=>by
   obtain ⟨c,hc⟩:=xC hl hd
   exact ih i c d hc hd (h2 i c u hc hu)
 |sl hl hx h ih=>intro u hv;exact .p (hv.um.nw (.sl hl hx h))
theorem Fn.nw {P:Program} {f:FuncId} {xs:List AV} {r r':AV} (hF:Fn P f xs [] r [] []) (h:NW r r'):Fn P f xs [] r' [] []:=by
 refine ⟨hF.1,fun C ρ U w vals hr hU hv=>(hF.2 C ρ U w vals hr hU hv).mono fun e w' he=> ?_⟩
 obtain ⟨v,ρ',U',rfl,h1,h2⟩:=he
 exact ⟨v,ρ',U',rfl,h1,h2.nw h⟩
def mQ (cs ds:List AV):Prop:=cs.length=ds.length∧∀ (i:Nat) (c d:AV),cs[i]? =some c→ds[i]? =some d→NW c d
theorem mQ.refl (l:List AV):mQ l l:=⟨rfl,fun i c d h1 h2=>by rw [h1] at h2;cases h2;exact .refl _⟩
theorem mQ.cons {c d:AV} {cs ds:List AV} (h:NW c d) (t:mQ cs ds):mQ (c::cs) (d::ds):=by
 refine ⟨by simp [t.1],fun i x y h1 h2=> ?_⟩
 cases i with
 |zero=>simp at h1 h2;subst h1;subst h2;exact h
 |succ i=>exact t.2 i x y (by simpa using h1) (by simpa using h2)
theorem mQ.c {c:AV} {cs ds:List AV} (t:mQ cs ds):mQ (c::cs) (c::ds):= .cons (.refl _) t
theorem NW.snoc {sz:Nat} (l:List (List AV)) {x y:List AV} (h:mQ x y):NW (.sl sz (l++[x])) (.sl sz (l++[y])):=by
 have key:∀ (k:Nat) (a b:List AV),(l++[x])[k]? =some a→(l++[y])[k]? =some b→mQ a b:=by
  intro k a b h1 h2
  by_cases hk:k<l.length
  ·rw [List.getElem?_append_left hk] at h1 h2
   rw [h1] at h2;cases h2;exact .refl _
  ·rw [List.getElem?_append_right (by omega)] at h1 h2
   cases hk:k - l.length with
   |zero=>rw [hk] at h1 h2;simp at h1 h2;subst h1;subst h2;exact h
   |succ j=>rw [hk] at h1;simp at h1
 exact .sl (by simp) (fun k a b h1 h2=>(key k a b h1 h2).1) fun k a b j c d h1 h2=>(key k a b h1 h2).2 j c d
theorem adw (u:Setup):Fn Tryz.prog 20 [.agg u.enc] [] (.aF [.agg (aK.new u).1.enc,I (aK.new u).2]) [] []:=by
 generalize hR:aK.new u=R
 unfold aK.new at hR
 have hn:=adu u
 generalize ak.new u=x at hR hn
 refine Fn.aT bY aaC (by simp) ?_
 unfold s20 SC.mk' Setup.enc
 simp only [go_sem]
 have hJ:=trivial
 repeat' first
  |(first|refine sC ?_|refine sD ?_|refine sZ ?_|refine sY ?_|refine sF ?_);simp only [hJ,Setup.enc,go_sem]
  |(first|refine bF (fun hq=> ?_) (fun hq=> ?_)|refine dY (fun hq=> ?_) (fun hq=> ?_)|refine dL (fun hq=> ?_) (fun hq=> ?_))<;>simp only [hq,hJ,Setup.enc,go_sem]
  |refine sM ?_;simp only [ay,rv,au,get,hJ,Setup.enc,go_sem]
  |refine bn ?_
  |fail
 all_goals clear hJ
 all_goals clear hn
 all_goals (subst hR;first|rfl|simp_all [rv,au,get,aK.enc,ak.enc,Setup.enc]<;>try rfl)
def aK.adx (x:aK) (lg:List (List AV)):List AV:=[I x.setup.slots,I x.setup.live,I x.setup.capacity,I x.setup.dead,I x.setup.limit,I x.setup.clock,I x.setup.fQ,I x.setup.epoch,.sl 9 (x.arena.slots.map Slot.enc),.sl 4 (x.arena.cu.map aH.enc),I x.arena.dead.owner,I x.arena.dead.dead.cap,.sl 7 (x.arena.dead.dead.l.map ai.enc),I x.arena.dir.version,.sl 3 (x.arena.dir.l.map Span.enc),.sl 1 (encI x.arena.dir.aJ),I x.arena.epoch,I x.arena.clock,I x.arena.fQ,.sl 63 (x.tasks.map Task.enc),.sl 10 lg,I x.steps,.sl 1 (dm x.handles)]
theorem ap4 (w:aK) (b:Int) (hl:w.log.length≤5000000):Fn Tryz.prog 92 [.agg w.enc,I b] [] (.aF [.agg (w.tick b).1.enc,I (w.tick b).2]) [] []:=by
 have hn:=anV w.arena b
 unfold aK.tick
 generalize w.arena.tick b=x at hn
 have mx:∀ j:Nat,j≤10000000→j≤maxLen:=fun j h=>Nat.le_trans h (by decide)
 have m1:=mx w.log.length (by omega)
 have m2:=mx (w.log.length+1) (by omega)
 clear mx
 by_cases e:x.2≠0
 ·rw [if_pos e]
  have e':(x.2 !=0)=true:=by simpa using e
  refine Fn.aT bY aaG (by simp) ?_
  unfold Np SC.mk' aK.enc
  simp only [go_sem]
  have hJ:=e'
  exact aZ
 ·rw [if_neg e]
  have e':(x.2 !=0)=false:=by simpa using e
  refine Fn.nw (r:= .aF [.agg (aK.adx {w with steps:=IntKind.i64.wrap (w.steps+1),arena:=x.1} (w.log.map Ev.enc++[[I (IntKind.i64.wrap (w.steps+1)),I 0,I 0,I 1,I x.1.clock,I 0,I 0,Nl,I 0,I 0]])),I 0]) ?_ ?_
  ·generalize hs:IntKind.i64.wrap (w.steps+1)=s
   refine Fn.aT bY aaG (by simp) ?_
   unfold Np SC.mk' aK.enc
   simp only [go_sem]
   have hJ:=ah e' (ah hs (ah m1 m2))
   repeat' first
    |(first|refine sC ?_|refine sD ?_|refine sZ ?_|refine sY ?_|refine sF ?_);simp only [hJ,go_sem]
    |(first|refine bF (fun hq=> ?_) (fun hq=> ?_)|refine dY (fun hq=> ?_) (fun hq=> ?_)|refine dL (fun hq=> ?_) (fun hq=> ?_))<;>simp only [hq,hJ,go_sem]
    |refine sM ?_;simp only [ay,rv,au,get,hJ,go_sem]
    |refine bn ?_
    |fail
   all_goals clear hJ
   all_goals (first|rfl|simp_all [rv,au,get,aK.adx,ak.enc,Setup.enc]<;>try rfl)
  ·have hE:NW (.sl 10 (w.log.map Ev.enc++[[I (IntKind.i64.wrap (w.steps+1)),I 0,I 0,I 1,I x.1.clock,I 0,I 0,Nl,I 0,I 0]])) (.sl 10 (w.log.map Ev.enc++[Ev.enc {Ev.z with stamp:=IntKind.i64.wrap (w.steps+1),kind:=1,now:=x.1.clock}])):=
    NW.snoc _ (by repeat first|exact mQ.cons (.nl 4) (.refl _)|refine mQ.c ?_)
   refine .aF rfl (mQ.cons ?_ (.refl _)).2
   refine .agg rfl (mQ.cons (.refl _) ?_).2
   simp only [List.map_append,List.map_cons,List.map_nil]
   repeat first|exact mQ.cons hE (.refl _)|refine mQ.c ?_
end Go.Eng
namespace Go.Eng
open Go
section
variable {n m:Nat} {w:aK}
theorem aK.ap5 {u:Setup} (e:(aK.new u).2=0):(ak.new u).2=0∧(aK.new u).1={aK.z with setup:=u,arena:=(ak.new u).1}:=by
 unfold aK.new at e ⊢
 split
 ·rename_i hc;rw [if_pos hc] at e;exact absurd e hc
 ·rename_i hc;exact ⟨Decidable.not_not.1 hc,rfl⟩
theorem ady {k:Int}:∀ (f:Nat) {m:Nat} {w:aK},w.wf n m→w.aW→m+f≤1000000→(rU k f w).2=0→(rU k f w).1.aW
 |0,m,w,h,hl,_,_=>hl
 |f+1,m,w,h,hl,hm,e=>by
  simp only [rU] at e ⊢
  split
  ·exact hl
  ·rename_i hc;rw [if_neg hc] at e
   split
   ·rename_i hd;rw [if_pos hd] at e;exact absurd e hd
   ·rename_i hd;rw [if_neg hd] at e
    exact ady f (aK.Xd h (by omega) (Decidable.not_not.1 hd)) (aK.ac8 h hl (Decidable.not_not.1 hd)) (by omega) e
theorem aK.ap6 (h:w.wf n m) (hl:w.aW) (hm:m+256≤1000000) {c:bI} (e:(w.oO c).2=0):(w.oO c).1.aW:=by
 unfold aK.oO at e ⊢
 simp only at e ⊢
 split
 ·rename_i hc;rw [if_pos hc] at e
  have hb:(max 0 (min c.eY 255)).toNat≤255:=by omega
  exact ady _ h hl (by omega) e
 rename_i hc;rw [if_neg hc] at e;clear hc
 split
 ·rename_i hc;rw [if_pos hc] at e
  split
  ·rename_i hd
   exact aK.XM h hl (by simpa using hd)
  ·exact hl
 rename_i hc;rw [if_neg hc] at e;clear hc
 have key:∀ v:bV,(if ((w.invoke v).2.2==0)=true then ((w.invoke v).1,(0:Int)) else (w,0)).1.aW:=by
  intro v
  split
  ·rename_i hd
   exact aK.aoK h hl (by simpa using hd)
  ·exact hl
 split
 ·exact key _
 ·exact hl
end
theorem F9 (a:ak) (t:Task) (k:Int):(t.go a k).2.1.results.length≤t.results.length:=by
 unfold Task.go
 simp only
 split
 ·exact Nat.zero_le _
 ·exact Nat.le_refl _
theorem BA (t:Task) (r:aV) (k:Int):(t.next r k).results.length=t.results.length+1:=by simp [Task.next]
theorem ap7 (t:Task):(nK t).1.results=t.results:=by
 unfold nK;simp only;repeat' split
 all_goals rfl
theorem ap8 (t:Task):(kN t).1.results=t.results:=by
 unfold kN;simp only;repeat' split
 all_goals rfl
theorem ap9 (t:Task):(nM t).1.results=t.results:=by
 unfold nM;simp only;repeat' split
 all_goals rfl
theorem aqa (t:Task):(nP t).1.results=t.results:=by
 unfold nP;simp only;repeat' split
 all_goals rfl
section
variable (a:ak) (t:Task) (k:Int)
theorem aqb:(qp a t k).2.1.results.length≤t.results.length+1:=by
 have g:=F9 a t k
 unfold qp;simp only;repeat' split
 all_goals simp only [fO,BA,ap7,Task.look,Task.fJ,List.length_nil]<;>omega
theorem aqc:(qw a t k).2.1.results.length≤t.results.length+1:=by
 have g:=F9 a t k
 unfold qw;simp only;repeat' split
 all_goals simp only [fO,BA,ap8,Task.look,Task.fJ,List.length_nil]<;>omega
theorem aqd:(nO a t k).2.1.results.length≤t.results.length+1:=by
 have g:=F9 a t k
 unfold nO;simp only;repeat' split
 all_goals simp only [fO,BA,ap9,Task.look,Task.fJ,List.length_nil]<;>omega
theorem aqe:(qx a t k).2.1.results.length≤t.results.length+1:=by
 unfold qx;simp only;repeat' split
 all_goals simp only [fO,BA,List.length_nil]<;>omega
theorem aqf:(qy a t k).2.1.results.length≤t.results.length+1:=by
 unfold qy;simp only;repeat' split
 all_goals simp only [fO,BA,List.length_nil]<;>omega
theorem aqg:(qA a t k).2.1.results.length≤t.results.length+1:=by
 have g:=F9 a t k
 unfold qA;simp only;repeat' split
 all_goals simp only [fO,BA,aqa,Task.fJ,List.length_nil]<;>omega
theorem aqh (p:Task→tV) (lo hi:Int) (c:Task→List Int):(jX p lo hi c a t k).2.1.results.length≤t.results.length+1:=by
 unfold jX;simp only
 split
 ·exact Nat.zero_le _
 have g:((if t.pc==0 then t.fJ (c t) 1 else t).go a k).2.1.results.length≤t.results.length:=by
  have:=F9 a (if t.pc==0 then t.fJ (c t) 1 else t) k
  have e:(if t.pc==0 then t.fJ (c t) 1 else t).results=t.results:=by split<;>rfl
  rw [e] at this;exact this
 generalize (if t.pc==0 then t.fJ (c t) 1 else t).go a k=x at g ⊢
 repeat' split
 all_goals simp only [fO,BA,Task.dec,List.length_nil]<;>omega
theorem aqi {N:Nat} {c:Prop} [Decidable c] {x y:iH} (h1:x.2.1.results.length≤N) (h2:y.2.1.results.length≤N):(if c then x else y).2.1.results.length≤N:=by
 split
 ·exact h1
 ·exact h2
theorem aqj:(fK a t k).2.1.results.length≤t.results.length+1:=by
 unfold fK
 repeat' (with_reducible refine aqi ?_ ?_)
 all_goals first|exact Nat.zero_le _|exact aqb a t k|exact aqc a t k|exact aqd a t k|exact aqe a t k|exact aqf a t k|exact aqg a t k|exact aqh a t k _ _ _ _
end
end Go.Eng
