/-
  Part of a proof: lemmas and definitions of this work.
  No condition.
-/
import Derived.Test.YtmhaehngejengaaGreatA05
set_option linter.all false
set_option maxRecDepth 100000
set_option maxHeartbeats 8000000
namespace Go.Eng
open Go
theorem ah {a b:Prop} (x:a) (y:b):a∧b:=⟨x,y⟩
section
variable {P:Program} {f:FuncId} {xs ys:List AV} {r:AV} {h:List (Nat×Ob)} {nm:Nat} {k:List It} {Q:Exit→St→Prop} {n n':Nat} {t:List (Nat×AV)} {d:Option Nat} {l ops:List aC} {acc:List bW}
theorem sC (hk:go P (.ops (nm+8) n' l::k) Q n (bU t d r) h) (hF:Fn P f xs [] r [] []:=by assumption) (hp:dM xs=true:=by rfl) (hr:r.pure=true:=by rfl):pU P nm f xs d n' l k Q n t h:=aO hF hp hr hk
theorem sD (hk:go P (.dF (nm+8) n' l ops (([],[])::acc)::k) Q n (bU t d r) h) (hF:Fn P f xs [] r [] []:=by assumption) (hp:dM xs=true:=by rfl) (hr:r.pure=true:=by rfl):pW P nm f xs d n' l ops acc k Q n t h:=dh hF hp hr hk
theorem sZ (hk:go P (.ops (nm+8) n' l::k) Q n (bU t d r) (kills (dR ys)++h)) (hF:Fn P f xs [] r [] []:=by assumption) (ha:au h [] [] xs ys:=by ((try simp only [au,rv,hJ,go_sem])<;>(try simp [encI,rv,au,get])<;>rfl)) (hz:qV h (dR ys)=true:=by rfl) (hp:dM xs=true:=by rfl) (hr:r.pure=true:=by rfl):pU P nm f ys d n' l k Q n t h:=lX hF ha hz hp hr hk
theorem sY (hk:go P (.dF (nm+8) n' l ops ((dR ys,(kills (dR ys)).map Prod.fst)::acc)::k) Q n (bU t d r) (kills (dR ys)++h)) (hF:Fn P f xs [] r [] []:=by assumption) (ha:au h [] [] xs ys:=by ((try simp only [au,rv,hJ,go_sem])<;>(try simp [encI,rv,au,get])<;>rfl)) (hz:qV h (dR ys)=true:=by rfl) (hp:dM xs=true:=by rfl) (hr:r.pure=true:=by rfl):pW P nm f ys d n' l ops acc k Q n t h:=Et hF ha hz hp hr hk
theorem sF {B:List Nat} (hk:go P k Q n (wB h [] t) (uJ h B)) (hB:iG [] h=B:=by simp only [go_sem];rfl) (hn:ED n B=true:=by rfl) (hp:Cm h B∧yc h [] t:=by (simp only [go_sem]<;>first|trivial|omega|(simp<;>omega))):xZ P k Q n t h:=CG hB hn hp hk
theorem sM {res:List kW} {r:AV} {t:List (Nat×AV)} {xs:List AV} (h3:rv h [] [] r (ay xs)) (h1:kX t h res=some xs:=by rfl) (h2:okS h [] [] []=true:=by rfl):Fin res r [] [] t h:=Fin.mk0 xs h1 h2 h3
end
theorem bn {A B:Prop} (k:B) (h:A:=by first|exact ⟨by omega,by omega⟩|rfl|omega|exact ⟨by omega,by omega,by omega⟩):A∧B:=⟨h,k⟩
theorem wk {s s':St} (S:List (Nat×Nat)) (N:List Nat) (hS:okS s.h S N s'.h=true:=by rfl) (hn:(S.map Prod.fst++N).all (fun k=>decide (k<s'.n))=true:=by rfl)
 (hH:dJ s.h S N s'.h S:=by (simp only [dJ,cO,au,rv,go_sem]<;>try simp)) (hN:ja s'.h N:=by (simp only [ja,go_sem]<;>try simp [encI])) (hT:gU s.h S N s.t s'.t:=by (simp only [gU,rv,au,go_sem]<;>try simp)):Wk s s':=Wk.mk S N hS hn hH hN hT
theorem fz {G:Prop} (h:G:=by (subst hR;first|rfl|simp_all [rv,au,get,ax.enter,ak.enc,ax.enc,Task.enc,Ev.enc,bG.enc,bf.enc,dG.enc,Dead.enc,Dir.enc,aj.enc,Walk.enc,aV.enc,aH.enc,-Int.not_lt,-Int.not_le]<;>try rfl)):G:=h
theorem aX {G:Prop} (h:G:=by
 repeat' first
  |(first|refine sC ?_|refine sD ?_|refine sZ ?_|refine sY ?_|refine sF ?_);simp only [go_sem]
  |(first|refine bF (fun hq=> ?_) (fun hq=> ?_)|refine dY (fun hq=> ?_) (fun hq=> ?_)|refine dL (fun hq=> ?_) (fun hq=> ?_))<;>simp only [hq,go_sem]
  |refine sM ?_;simp only [ay,rv,au,get,go_sem]
  |refine bn ?_
  |fail
 all_goals ((try clear aI);(try clear aU);(try clear bK);(try clear eF);(try clear iw);(try clear oG);(try clear hgo);(try clear hrl);(try clear hel);(try clear hpl);(try clear htk);(try clear hdc);(try clear hse);(try clear hho);(try clear hsp);(try clear hst);(try clear hre);(try clear hro))
 all_goals first|rfl|((try subst hR);first|rfl|(simp_all [rv,au,get,ay,ak.enc,ax.enc,Task.enc,Ev.enc,bG.enc,bf.enc,dG.enc,Dead.enc,Dir.enc,aj.enc,Walk.enc,aV.enc,aH.enc,-Int.not_lt,-Int.not_le]<;>rfl)|(simp_all [rv,au,get,ay,ak.enc,ax.enc,Task.enc,Ev.enc,bG.enc,bf.enc,dG.enc,Dead.enc,Dir.enc,aj.enc,Walk.enc,aV.enc,aH.enc,ax.enter,Task.kK,dD.enc,fO,Task.ev,encI,bT.enc,ax.bg,Setup.enc,aK.enc,ai.enc,bI.enc,-Int.not_lt,-Int.not_le]<;>rfl))):G:=h
theorem aZ {G:Prop} (h:G:=by
 repeat' first
  |(first|refine sC ?_|refine sD ?_|refine sZ ?_|refine sY ?_|refine sZ ?_ aI|refine sY ?_ aI|refine sZ ?_ aU|refine sY ?_ aU|refine sZ ?_ bK|refine sY ?_ bK|refine sZ ?_ eF|refine sY ?_ eF|refine sZ ?_ iw|refine sY ?_ iw|refine sF ?_);simp only [hJ,go_sem]
  |(first|refine bF (fun hq=> ?_) (fun hq=> ?_)|refine dY (fun hq=> ?_) (fun hq=> ?_)|refine dL (fun hq=> ?_) (fun hq=> ?_))<;>simp only [hq,hJ,go_sem]
  |refine sM ?_;simp only [ay,rv,au,get,hJ,go_sem]
  |refine bn ?_
  |fail
 all_goals ((try clear hJ);(try clear aI);(try clear aU);(try clear bK);(try clear eF);(try clear iw);(try clear oG);(try clear hgo);(try clear hrl);(try clear hel);(try clear hpl);(try clear htk);(try clear hdc);(try clear hse);(try clear hho);(try clear hsp);(try clear hst);(try clear hre);(try clear hro))
 all_goals first|rfl|((try subst hR);first|rfl|(simp_all [rv,au,get,ay,ak.enc,ax.enc,Task.enc,Ev.enc,bG.enc,bf.enc,dG.enc,Dead.enc,Dir.enc,aj.enc,Walk.enc,aV.enc,aH.enc,-Int.not_lt,-Int.not_le]<;>rfl)|(simp_all [rv,au,get,ay,ak.enc,ax.enc,Task.enc,Ev.enc,bG.enc,bf.enc,dG.enc,Dead.enc,Dir.enc,aj.enc,Walk.enc,aV.enc,aH.enc,ax.enter,Task.kK,dD.enc,fO,Task.ev,encI,bT.enc,ax.bg,Setup.enc,aK.enc,ai.enc,bI.enc,-Int.not_lt,-Int.not_le]<;>rfl))):G:=h
theorem aY {G:Prop} (h:G:=by
 repeat' first
  |(first|refine sC ?_|refine sD ?_|refine sZ ?_|refine sY ?_|refine sZ ?_ aI|refine sY ?_ aI|refine sZ ?_ aU|refine sY ?_ aU|refine sZ ?_ bK|refine sY ?_ bK|refine sZ ?_ eF|refine sY ?_ eF|refine sZ ?_ iw|refine sY ?_ iw|refine sF ?_);simp only [hJ,go_sem]
  |(first|refine bF (fun hq=> ?_) (fun hq=> ?_)|refine dY (fun hq=> ?_) (fun hq=> ?_)|refine dL (fun hq=> ?_) (fun hq=> ?_))<;>simp only [hq,hJ,go_sem]
  |refine sM ?_;simp only [ay,rv,au,get,hJ,go_sem]
  |refine bn ?_
  |fail
 all_goals ((try clear hJ);(try clear aI);(try clear aU);(try clear bK);(try clear eF);(try clear iw);(try clear oG);(try clear hgo);(try clear hrl);(try clear hel);(try clear hpl);(try clear htk);(try clear hdc);(try clear hse);(try clear hho);(try clear hsp);(try clear hst);(try clear hre);(try clear hro);(try clear ld);(try clear h1);(try clear h2);(try clear hld);(try clear NS);(try clear q1);(try clear q2);(try clear q1'))
 all_goals first|rfl|((try subst hR);first|rfl|(simp_all [rv,au,get,ay,ak.enc,ax.enc,Task.enc,Ev.enc,bG.enc,bf.enc,dG.enc,Dead.enc,Dir.enc,aj.enc,Walk.enc,aV.enc,aH.enc,-Int.not_lt,-Int.not_le]<;>rfl)|(simp_all [rv,au,get,ay,ak.enc,ax.enc,Task.enc,Ev.enc,bG.enc,bf.enc,dG.enc,Dead.enc,Dir.enc,aj.enc,Walk.enc,aV.enc,aH.enc,ax.enter,Task.kK,dD.enc,fO,Task.ev,encI,bT.enc,ax.bg,Setup.enc,aK.enc,ai.enc,bI.enc,-Int.not_lt,-Int.not_le]<;>rfl))):G:=h
end Go.Eng
