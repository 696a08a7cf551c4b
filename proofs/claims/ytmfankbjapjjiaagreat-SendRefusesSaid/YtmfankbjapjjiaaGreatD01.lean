/-
  Part of a proof: lemmas and definitions of this work.
  No condition.
-/
import Derived.Test.YtmfankbjapjjiaaGreatA08
import Derived.Test.YtmfankbjapjjiaaGreatA50
import Derived.Test.YtmfankbjapjjiaaGreatD00
import Derived.Test.YtmfankbjapjjiaaGreatA07
import Derived.WalkKit
import Derived.Laws.LoneSync
import Derived.RegionCalls
set_option linter.all false
set_option maxRecDepth 100000
set_option maxHeartbeats 8000000
namespace Go.Eng
open Go Go.Proofs
attribute [local go_sem] aj.enc av.enc Task.enc Ev.enc bE.enc aW.enc cB.enc Dead.enc Dir.enc ak.enc Walk.enc aU.enc aI.enc bN.enc Setup.enc aS dX dY List.length_map
theorem ap8 (t:Task) (h:t.guard 1 1≠0):Fn Tryz.prog 28 [.agg t.enc] [] (I (t.guard 1 1)) [] []:=by
 by_cases hd:t.dn=true
 ·have hR:t.guard 1 1=7:=by simp [Task.guard,hd]
  rw [hR]
  refine Fn.aO ap9 (by simp) ?_
  unfold s28 SC.mk' Task.enc
  simp only [hd,go_sem]
  exact Fin.bI _ rfl rfl rfl rfl
 simp only [Bool.not_eq_true] at hd
 have hk:t.inv.kind<1\/1<t.inv.kind:=by
  simp only [Task.guard,hd] at h
  simp at h
  omega
 have hR:t.guard 1 1=9:=by simp [Task.guard,hd];omega
 rw [hR]
 have h1:(t.inv.kind==1)=false:=by simp;omega
 have h2:(t.inv.kind !=1)=true:=by simp;omega
 refine Fn.aO ap9 (by simp) ?_
 unfold s28 SC.mk' Task.enc
 simp only [hd,h1,h2,go_sem]
 exact Fin.bI _ rfl rfl rfl rfl
theorem aqb (e:Int):Fn Tryz.prog 27 [I e] [] (dw (dH e)) [] []:=by
 refine Fn.aO asb (by simp) ?_
 unfold s27 SC.mk'
 simp only [go_sem]
 exact Fin.aD _ rfl rfl (by simp [ay,dw,dH,rv,au,aj.enc,Task.enc])
theorem aqc (a:aj) (t:Task) (k:Int) (h:t.guard 1 1≠0):Fn Tryz.prog 11 [.agg a.enc,.agg t.enc,I k] [] (dw (dH (t.guard 1 1))) [] []:=by
 have hr:=ap8 t h
 have hf:=aqb (t.guard 1 1)
 generalize t.guard 1 1=g at h hr hf
 have g1:(g==0)=false:=by simpa using h
 have g2:(g !=0)=true:=by simpa using h
 refine Fn.aT bY asf (by simp) ?_
 unfold s11 SC.mk' aj.enc Task.enc
 simp only [go_sem]
 have hJ:=ah g1 g2
 exact aZ
end Go.Eng
namespace Go.Eng
open Go Go.Proofs
theorem aqd (l:List Int) (hA:Fn Tryz.prog 12 [] [] (Bo true) [] []):Fn Tryz.prog 4 [.sl 1 (encI l)] [] (Bo true) [] []:=by
 have hl:(l.take 4000).length<=4000:=by simp;omega
 have hw:Fn Tryz.prog 8 [.ptr 0 0,I 10] [dO (l.take 4000) 0] (.agg (lM (l.take 4000) 10 0).1.enc) [dO (l.take 4000) (lM (l.take 4000) 10 0).2] []:=Oa (l.take 4000) 0 10 hl (by omega)
 generalize lM (l.take 4000) 10 0=w at hw
 refine Fn.aO ok4 (by simp) ?_
 unfold s4 SC.mk'
 simp only [go_sem]
 refine vP (fn7 l) rfl rfl (by simp) (by simp [dW]) ?_
 simp only [dB,sh,go_sem]
 refine eB (b:=24) hw ⟨rfl,⟨rfl,rfl⟩,trivial⟩ rfl rfl rfl rfl ?_
 simp only [aF.enc,go_sem]
 refine go_loop (fun k:{k:Nat // k<=16}=>⟨5000,[(4,.ptr 56 0),(5,I k.1)],[(56,.box w.1.enc)]⟩) (fun k=>16 - k.1) ⟨0,by omega⟩ (Wk.mk [(56,56)] [] rfl rfl (by simp only [cO,bK,au,rv,aF.enc,go_sem]<;>try simp) trivial (by simp only [d9,rv,au,go_sem]<;>try simp)) ?_
 rintro ⟨k,hk⟩ B hB
 simp only [aF.enc,go_sem]
 by_cases e1:k<=15
 ·have e2:decide ((k:Int)<=15)=true:=by simp;omega
  have hw2:=bQ (show k<=100000 by omega)
  have key:∀ dn:Bool,(dn=true\/¬ (k:Int)=1)->Task.guard {Task.z with number:=1,inv:={bJ.z with kind:=(k:Int),bodies:=[⟨#[97]⟩],tokens:=[[1]]},setup:=w.1.setup,dn:=dn} 1 1=(if dn then 7 else 9):=by
   intro dn h
   unfold Task.guard
   cases dn with
   |true=>simp
   |false=>
    have h2:¬ (k:Int)=1:=by simpa using h
    have h3:(decide ((k:Int)<1)||decide (1<(k:Int)))=true:=by simp;omega
    simp [h3]
  have call:∀ dn:Bool,(dn=true\/¬ (k:Int)=1)->Fn Tryz.prog 11 [.agg w.1.arena.enc,.agg (Task.enc {Task.z with number:=1,inv:={bJ.z with kind:=(k:Int),bodies:=[⟨#[97]⟩],tokens:=[[1]]},setup:=w.1.setup,dn:=dn}),I 5] [] (dw (dH (if dn then 7 else 9))) [] []:=by
   intro dn h
   have:=aqc w.1.arena {Task.z with number:=1,inv:={bJ.z with kind:=(k:Int),bodies:=[⟨#[97]⟩],tokens:=[[1]]},setup:=w.1.setup,dn:=dn} 5 (by rw [key dn h];cases dn<;>simp)
   rw [key dn h] at this
   exact this
  simp only [e2,hw2,go_sem]
  refine ⟨by omega,?_⟩
  by_cases jh:((k:Int)==1)=true
  ·have hc:=call true (.inl rfl)
   simp only [jh,go_sem]
   refine iK hc ?_ rfl rfl rfl ?_
   ·simp [au,rv,get,aj.enc,Task.enc,encS,bW,dL]
   simp only [dH,dw,aj.enc,Task.enc,hw2,go_sem]
   exact hB _ ⟨k+1,by omega⟩ (by simp only;omega) (Wk.mk [(56,56)] [] rfl rfl (by simp only [cO,bK,au,rv,aF.enc,go_sem]<;>try simp) trivial (by simp only [d9,rv,au,hw2,go_sem]<;>try simp))
  ·simp only [Bool.not_eq_true] at jh
   have hc:=call ((k:Int).tmod 2==0) (.inr (by simpa using jh))
   generalize ((k:Int).tmod 2==0)=dn at hc ⊢
   simp only [jh,go_sem]
   refine iK hc ?_ rfl rfl rfl ?_
   ·simp [au,rv,get,aj.enc,Task.enc,encS,bW,dL]
   cases dn
   all_goals
    simp only [dH,dw,aj.enc,Task.enc,hw2,go_sem]
    exact hB _ ⟨k+1,by omega⟩ (by simp only;omega) (Wk.mk [(56,56)] [] rfl rfl (by simp only [cO,bK,au,rv,aF.enc,go_sem]<;>try simp) trivial (by simp only [d9,rv,au,hw2,go_sem]<;>try simp))
 ·have e2:decide ((k:Int)<=15)=false:=by simp;omega
  simp only [e2,go_sem]
  refine aQ hA rfl rfl ?_
  simp only [go_sem]
  exact Fin.bI _ rfl rfl rfl rfl
theorem aqe (a:Addr) (x:Value) (v:Int) (w:World) (hc:w.cell? a=some x) (hz:w.frozen? a=false):
 Calls Tryz.prog 112 #[.pointer (some a),.int .i64 v] w fun e w'=>e= .returned (.tuple #[])/\w'=w.setCell a (.int .i64 v):=by
 have hst:=run_call_store (P:=Tryz.prog) Tryz.func161 (by kernel_rfl) (by kernel_rfl) (by kernel_rfl) (by kernel_rfl) (k:= .i64) (y:=v) hc hz
 go_enter Tryz.func112,Tryz.ntmps112
 go_wp2
 go_end0
 exact ⟨rfl,rfl⟩
theorem aqf (a:Addr) (x:Int) (w:World) (hc:w.cell? a=some (.int .i64 x)):
 Calls Tryz.prog 114 #[.pointer (some a)] w fun e w'=>e= .returned (.int .i64 x)/\w'=w:=by
 have hst:=run_call_load (P:=Tryz.prog) Tryz.func163 (by kernel_rfl) (by kernel_rfl) (by kernel_rfl) .i64 (by kernel_rfl) hc
 go_enter Tryz.func114,Tryz.ntmps114
 go_wp2
 refine bodyPost_ret (results_tmp rfl _ _ _) rfl ?_
 exact ⟨rfl,rfl⟩
theorem aqg (a:Addr) (x o y:Int) (w:World) (hc:w.cell? a=some (.int .i64 x)) (hz:w.frozen? a=false):
 Calls Tryz.prog 113 #[.pointer (some a),.int .i64 o,.int .i64 y] w fun e w'=>e= .returned (.bool (x==o))/\w'=if x=o then w.setCell a (.int .i64 y) else w:=by
 by_cases h:x=o
 ·subst h
  have hst:=run_call_cas_hit (P:=Tryz.prog) Tryz.func162 (by kernel_rfl) (by kernel_rfl) (by kernel_rfl) .i64 (by kernel_rfl) (y:=y) hc hz
  go_enter Tryz.func113,Tryz.ntmps113
  go_wp2
  refine bodyPost_ret (results_tmp rfl _ _ _) rfl ?_
  exact ⟨by simp,by simp⟩
 ·have hst:=run_call_cas_miss (P:=Tryz.prog) Tryz.func162 (by kernel_rfl) (by kernel_rfl) (by kernel_rfl) .i64 (by kernel_rfl) (y:=y) hc hz h
  go_enter Tryz.func113,Tryz.ntmps113
  go_wp2
  refine bodyPost_ret (results_tmp rfl _ _ _) rfl ?_
  exact ⟨by simp [h],by simp [h]⟩
theorem HR.heq {C:Ctx} {ρ:Nat->Loc} {U:Nat->Prop} {h H:List (Nat×Ob)} {w:World} (hh:∀ b,get h b=get H b) (hr:HR C ρ U h w):HR C ρ U H w:=
 ⟨fun b o hb=>hr.hp b o ((hh b).trans hb),fun b hb=>hr.hd b ((hh b).trans hb),hr.inj,hr.os,hr.tape,hr.output,hr.size,hr.old,hr.jw,hr.dJ,
  fun b l hl=>by obtain ⟨h1,h2,cs,h3⟩:=hr.fix b l hl;exact ⟨h1,h2,cs,(hh b).symm.trans h3⟩⟩
theorem HR.set1 {C:Ctx} {ρ:Nat->Loc} {U:Nat->Prop} {w:World} {c:AV} {g o n:Nat} {e:TypeId} {cells:Array Value} (hr:HR C ρ U [(0,.box [c])] w)
 (hl:ρ 0= .at g o n) (hg:w.heap[g]? =some (.cells cells e (0,0))) (hs:o+n<=cells.size) (hn:n=1) (v:Value):
 ∃ ρ' U',HR C ρ' U' [(0,.box [.v v])] (w.setCell ⟨g,o,none⟩ v):=by
 have hu:=(hr.hp 0 (.box [c]) rfl).1
 have hm:Moved C ρ U [(0,.box [c])] w 0 (ρ 0) (w.setCell ⟨g,o,none⟩ v):=by
  refine ⟨rfl,rfl,rfl,by simp,fun k hk hkb=> ?_,.inl ⟨hu,rfl⟩⟩
  by_cases hkg:k=g
  ·subst hkg;exact absurd hl (hkb o n)
  ·exact heap_setCell_other w _ k v hkg
 have hb:=heap_setCell_same w g o cells e v hg
 have:=hm.hr hr (ob:= .box [.v v]) (fun _=>⟨_,rfl⟩) (by
  rw [hl]
  refine ⟨g,o,n,e,_,rfl,hb,by simpa using hs,by simpa using hn,fun j x hj=> ?_⟩
  cases j with
  |zero=>
   simp at hj
   subst hj
   refine ⟨v,?_,.p (.v _)⟩
   simp [Array.getElem?_setIfInBounds]
   omega
  |succ j=>simp at hj)
 exact ⟨_,_,HR.heq (fun b=>by simp only [get];split<;>rfl) this⟩
theorem XK {C:Ctx} {ρ:Nat->Loc} {U:Nat->Prop} {w:World} {x:Int} {p:Value} (hr:HR C ρ U (outs [[.v (.int .i64 x)]] []) w) (hp:VR w (aP C ρ w) ρ U (.ptr 0 0) p):
 ∃ g o n e cells,ρ 0= .at g o n/\w.heap[g]? =some (.cells cells e (0,0))/\o+n<=cells.size/\n=1/\p= .pointer (some ⟨g,o,none⟩)/\w.cell? ⟨g,o,none⟩=some (.int .i64 x)/\w.frozen? ⟨g,o,none⟩=false:=by
 obtain ⟨hu,g,o,n,e,cells,h1,h2,h3,h4,h5⟩:=hr.hp 0 (.box [.v (.int .i64 x)]) rfl
 obtain ⟨_,a,rfl,ha⟩:=hp.rM
 obtain ⟨u,h6,h7⟩:=h5 0 _ rfl
 have:=h7.dG
 subst this
 refine ⟨g,o,n,e,cells,h1,h2,h3,by simpa using h4,by rw [ha g o n h1];rfl,?_,?_⟩
 ·simp only [World.cell?,h2]
  simpa using h6
 ·simp [World.frozen?,h2]
theorem atS (x v:Int):fP Tryz.prog 112 [.ptr 0 0,.v (.int .i64 v)] [[.v (.int .i64 x)]] [] (.aG []) [[.v (.int .i64 v)]] []:=by
 refine ⟨⟨Tryz.f112,Tryz.func112,by kernel_rfl,by kernel_rfl⟩,fun C ρ U w vals hr hU hv=> ?_⟩
 obtain ⟨hlv,hg⟩:=hv
 obtain ⟨p,q,rfl⟩:∃ p q,vals= #[p,q]:=by
  match vals,hlv with
  |⟨[p,q]⟩,_=>exact ⟨p,q,rfl⟩
 have h0:=hg 0 _ p rfl rfl
 have h1:=(hg 1 _ q rfl rfl).dG
 subst h1
 obtain ⟨g,o,n,e,cells,hl,hc,hs,hn,rfl,hx,hz⟩:=XK hr h0
 refine (aqe _ _ v w hx hz).mono fun e w' hp=> ?_
 obtain ⟨rfl,rfl⟩:=hp
 obtain ⟨ρ',U',h⟩:=HR.set1 (c:= .v (.int .i64 x)) hr hl hc hs hn (.int .i64 v)
 exact ⟨_,ρ',U',rfl,h,.p (.aG rfl (fun i c u h=>by simp at h))⟩
theorem atL (x:Int):fP Tryz.prog 114 [.ptr 0 0] [[.v (.int .i64 x)]] [] (.v (.int .i64 x)) [[.v (.int .i64 x)]] []:=by
 refine ⟨⟨Tryz.f114,Tryz.func114,by kernel_rfl,by kernel_rfl⟩,fun C ρ U w vals hr hU hv=> ?_⟩
 obtain ⟨hlv,hg⟩:=hv
 obtain ⟨p,rfl⟩:∃ p,vals= #[p]:=by
  match vals,hlv with
  |⟨[p]⟩,_=>exact ⟨p,rfl⟩
 have h0:=hg 0 _ p rfl rfl
 obtain ⟨g,o,n,e,cells,hl,hc,hs,hn,rfl,hx,hz⟩:=XK hr h0
 refine (aqf _ _ w hx).mono fun e w' hp=> ?_
 obtain ⟨rfl,rfl⟩:=hp
 exact ⟨_,ρ,U,rfl,hr,.p (.v _)⟩
theorem atC (x o y:Int):fP Tryz.prog 113 [.ptr 0 0,.v (.int .i64 o),.v (.int .i64 y)] [[.v (.int .i64 x)]] [] (.v (.bool (x==o))) [[.v (.int .i64 (if x=o then y else x))]] []:=by
 refine ⟨⟨Tryz.f113,Tryz.func113,by kernel_rfl,by kernel_rfl⟩,fun C ρ U w vals hr hU hv=> ?_⟩
 obtain ⟨hlv,hg⟩:=hv
 obtain ⟨p,q,r,rfl⟩:∃ p q r,vals= #[p,q,r]:=by
  match vals,hlv with
  |⟨[p,q,r]⟩,_=>exact ⟨p,q,r,rfl⟩
 have h0:=hg 0 _ p rfl rfl
 have h1:=(hg 1 _ q rfl rfl).dG
 have h2:=(hg 2 _ r rfl rfl).dG
 subst h1 h2
 obtain ⟨g,o',n,e,cells,hl,hc,hs,hn,rfl,hx,hz⟩:=XK hr h0
 refine (aqg _ x o y w hx hz).mono fun e w' hp=> ?_
 obtain ⟨rfl,rfl⟩:=hp
 by_cases h:x=o
 ·rw [if_pos h,if_pos h]
  obtain ⟨ρ',U',h⟩:=HR.set1 (c:= .v (.int .i64 x)) hr hl hc hs hn (.int .i64 y)
  exact ⟨_,ρ',U',rfl,h,.p (.v _)⟩
 ·rw [if_neg h,if_neg h]
  exact ⟨_,ρ,U,rfl,hr,.p (.v _)⟩
def XL:RunT:=fun f xs bs gs=>match gs,bs,xs with
 |[],[[.v (.int .i64 x)]],[.ptr 0 0,.v (.int .i64 v)]=>if f=112 then some ([],[(0,.box [.v (.int .i64 v)])]) else none
 |[],[[.v (.int .i64 x)]],[.ptr 0 0,.v (.int .i64 o),.v (.int .i64 y)]=>if f=113 then some ([.v (.bool (x==o))],[(0,.box [.v (.int .i64 (if x=o then y else x))])]) else none
 |[],[[.v (.int .i64 x)]],[.ptr 0 0]=>if f=114 then some ([.v (.int .i64 x)],[(0,.box [.v (.int .i64 x)])]) else none
 |_,_,_=>none
theorem aqk:gF Tryz.prog XL:=by
 intro f xs bs gs vs h e
 unfold XL at e
 split at e
 ·rename_i x v
  split at e
  ·rename_i hf
   subst hf
   cases e
   exact ⟨[],[],rfl,fun r bs' es hE=>(atS x v).fin (t:=[]) (res:=[]) rfl rfl hE⟩
  ·cases e
 ·rename_i x o y
  split at e
  ·rename_i hf
   subst hf
   cases e
   exact ⟨[(0,.v (.bool (x==o)))],[.tmp 0],rfl,fun r bs' es hE=>(atC x o y).fin (t:=[(0,.v (.bool (x==o)))]) (res:=[.tmp 0]) rfl rfl hE⟩
  ·cases e
 ·rename_i x
  split at e
  ·rename_i hf
   subst hf
   cases e
   exact ⟨[(0,.v (.int .i64 x))],[.tmp 0],rfl,fun r bs' es hE=>(atL x).fin (t:=[(0,.v (.int .i64 x))]) (res:=[.tmp 0]) rfl rfl hE⟩
  ·cases e
 ·cases e
end Go.Eng
