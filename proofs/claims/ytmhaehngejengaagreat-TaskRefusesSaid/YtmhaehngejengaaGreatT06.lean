/-
  Part of a proof: lemmas and definitions of this work.
  No condition.
-/
import Derived.Test.YtmhaehngejengaaGreatA12
import Derived.Test.YtmhaehngejengaaGreatA31
set_option linter.all false
set_option maxRecDepth 100000
set_option maxHeartbeats 8000000
namespace Go.Eng
open Go Go.Proofs
attribute [local go_sem] ak.enc ax.enc Task.enc Ev.enc bG.enc bf.enc dG.enc Dead.enc Dir.enc aj.enc Walk.enc aV.enc aH.enc bT.enc Setup.enc aS fD fE List.length_map
theorem X9 (k:Int):Fn Tryz.prog 357 [I k] [] (I (setKind k)) [] []:=by
 generalize hR:setKind k=R
 unfold setKind at hR
 refine Fn.aN ai9 (by simp) ?_
 unfold TF SC.mk'
 simp only [go_sem]
 exact aX
theorem ado (t:Task) (hl:t.sec.aW) (h1:0<t.sec.shards.length):Fn Tryz.prog 360 [.agg t.enc] [] (.aF [.agg (settle t).1.enc,I (settle t).2]) [] []:=by
 generalize hR:settle t=R
 unfold settle at hR
 simp only at hR
 have hn:=lI h1
 have hsm:=oV hl 0
 generalize eH t.sec.shards 0=s at hR hn hsm
 refine Fn.aT bY ajc (by simp) ?_
 unfold TJ SC.mk' Task.enc
 simp only [hn,aj.enc,List.length_map,go_sem]
 repeat (refine bn ?_)
 have aI:=anp s t.hnd t.sec.aG.clock t.sec.aG.epoch hsm
 have aU:=anr s t.hnd t.sec.aG.clock t.sec.aG.epoch t.setup.limit hsm
 have bK:=ant s t.hnd t.sec.aG.clock t.sec.aG.epoch t.inv.vis hsm
 have hJ:=Hd.enc.eq_1
 exact aZ
theorem apK (t:Task) (hl:t.sec.aW) (hc:t.sec.lock.cells.length≤1000) (h1:0<t.sec.shards.length):Fn Tryz.prog 358 [.agg t.enc] [] (.aF [.agg (nM t).1.enc,.sl 10 ((nM t).2.map Ev.enc)]) [] []:=by
 generalize hR:nM t=R
 unfold nM at hR
 simp only at hR
 have hn:=lI h1
 have hsm:=oV hl 0
 have hst:=ado t hl h1
 generalize eH t.sec.shards 0=s at hR hn hsm
 generalize settle t=x at hR hst
 refine Fn.aT bY aja (by simp) ?_
 unfold TG SC.mk' Task.enc
 simp only [hn,aj.enc,List.length_map,go_sem]
 repeat (refine bn ?_)
 by_cases c1:s.owns t.hnd.route=true
 ·simp only [c1,Bool.not_true,Bool.false_eq_true,if_false] at hR
  generalize hk:setKind t.inv.kind=kd at hR
  by_cases c2:(x.2==0)=true
  ·simp only [c2,if_true,Bool.true_and] at hR
   have aI:=gQ t.sec
   have aU:=lG s t.hnd.route hsm
   have bK:=X9 t.inv.kind
   have eF:=jR t kd
   have iw:=fV t {t.sec.bg with shards:=[x.1],order:=[0]} (by simp) hc
   try dsimp only at iw
   have hJ:=ah c1 (ah c2 (ah hk hn))
   exact aZ
  ·simp only [Bool.not_eq_true] at c2
   simp only [c2,Bool.false_eq_true,if_false,Bool.false_and] at hR
   have aI:=gQ t.sec
   have aU:=lG s t.hnd.route hsm
   have bK:=X9 t.inv.kind
   have eF:=jR t kd
   have iw:=fV t t.sec.bg (by simp [ax.bg]) hc
   have hJ:=ah c1 (ah c2 (ah hk hn))
   exact aZ
 ·simp only [Bool.not_eq_true] at c1
  simp only [c1,Bool.not_false,if_true] at hR
  have aI:=gQ t.sec
  have aU:=lG s t.hnd.route hsm
  have bK:=fV t t.sec.bg (by simp [ax.bg]) hc
  have hJ:=ah c1 hn
  exact aZ
end Go.Eng
namespace Go.Eng
open Go Go.Proofs
attribute [local go_sem] ak.enc ax.enc Task.enc Ev.enc bG.enc bf.enc dG.enc Dead.enc Dir.enc aj.enc Walk.enc aV.enc aH.enc bT.enc Setup.enc aS fD fE List.length_map
theorem apL (b:List UInt8):Aw b= .aF [.agg (vG b).1.enc,I (vG b).2]:=by
 unfold Aw vG
 cases parse b<;>rfl
theorem p09 (b:List UInt8):Fn Tryz.prog 184 [iM b] [] (.aF [.agg (vG b).1.enc,I (vG b).2]) [] []:=by
 rw [←apL];exact abH b
theorem Ya (a:ak) (t:Task) (k:Int) {n:Nat} (ha:a.wf n) (hal:a.aW) (ht:t.wf n) (hl:t.aW) (hk1:3≤t.inv.kind) (hk2:t.inv.kind≤5) (hd:t.dn=false):Fn Tryz.prog 280 [.agg a.enc,.agg t.enc,I k] [] (dW (nO a t k)) [] []:=by
 generalize hR:nO a t k=R
 unfold nO at hR
 simp only at hR
 have hg:t.guard 3 5=0:=by simp [Task.guard,hd,-Int.not_lt,-Int.not_le];omega
 simp only [hg,ne_eq,not_true_eq_false,if_false] at hR
 have h1:=lJ hl
 have h2:=lK hl
 have hdl:=O1 ha
 by_cases p0:(t.pc==0)=true
 ·simp only [if_pos p0] at hR
  have he:t.entry.toNat<t.inv.tokens.length:=by
   have h:=hl.en
   have h0:=hl.e0
   unfold bV.entries at h
   have e1:(t.inv.kind==1)=false:=by simp;omega
   have e2:(t.inv.kind==3||(t.inv.kind==4||t.inv.kind==5))=true:=by simp;omega
   simp only [e1,e2,if_true,Bool.false_eq_true,if_false] at h
   omega
  have hn:=abI he
  have hpp:=p09 (Ot t.inv.tokens t.entry.toNat)
  change nth _ _=[iM (Ot t.inv.tokens t.entry.toNat)] at hn
  generalize hb:Ot t.inv.tokens t.entry.toNat=b at hR hn hpp
  generalize vG b=x at hR hpp
  generalize hkd:setKind t.inv.kind=kd at hR
  refine Fn.aT dA CU (by simp) ?_
  unfold yx SC.mk' ak.enc Task.enc
  simp only [go_sem]
  have aI:=dw t 3 5
  have aU:=X9 t.inv.kind
  have bK:=F6 t kd k
  have eF:=ji t {aV.z with err:=5} k h1 h2
  try dsimp only at eF
  have iw:=xB {t with hnd:=x.1,pc:=1} [x.1.hint] 2 (by simp)
  try dsimp only at iw
  have hJ:=ah hg (ah p0 (ah hn (ah hkd Hd.enc.eq_1)))
  exact aY
 simp only [if_neg p0] at hR
 simp only [Bool.not_eq_true] at p0
 by_cases p1:(t.pc==1)=true
 ·simp only [if_pos p1] at hR
  refine Fn.aT dA CU (by simp) ?_
  unfold yx SC.mk' ak.enc Task.enc
  simp only [go_sem]
  have aI:=dw t 3 5
  have aU:=X4 a t t.hnd.route 2 hdl
  have hJ:=ah hg (ah p0 p1)
  exact aY
 simp only [if_neg p1] at hR
 simp only [Bool.not_eq_true] at p1
 have hs:t.sec.wf n∧dB n t.sec.lock.cells=1:=by
  have hpc:=ht.k3 hk1 hk2
  simp only [beq_eq_false_iff_ne] at p0 p1
  rcases hpc with h|⟨_,h|h⟩<;>first|omega|exact h
 have hgo:=oW a t k ha hal hs.1 hl.se
 have G:=go_ok (k:=k) ha hal hs.1 hl
 generalize t.go a k=x at hR hgo G
 by_cases e1:x.2.2.2.2≠0
 ·rw [if_pos e1] at hR
  have e1':(x.2.2.2.2 !=0)=true:=by simpa using e1
  refine Fn.aT dA CU (by simp) ?_
  unfold yx SC.mk' ak.enc Task.enc
  simp only [go_sem]
  have aI:=dw t 3 5
  have aU:=kR x.2.2.2.2
  have hJ:=ah hg (ah p0 (ah p1 e1'))
  exact aY
 rw [if_neg e1] at hR
 have e1':(x.2.2.2.2 !=0)=false:=by simpa using e1
 have G:=G (Decidable.not_not.1 e1)
 have hrl:=lJ G.l
 have hel:=lK G.l
 by_cases e2:x.2.2.1=true
 ·rw [if_pos e2] at hR
  have hdc:=apK x.2.1 G.l.se G.cl (by have:=G.one hs.2 (by rw [G.p4 e2];omega);omega)
  refine Fn.aT dA CU (by simp) ?_
  unfold yx SC.mk' ak.enc Task.enc
  simp only [go_sem]
  have aI:=dw t 3 5
  have hJ:=ah hg (ah p0 (ah p1 (ah e1' e2)))
  exact aY
 rw [if_neg e2] at hR
 simp only [Bool.not_eq_true] at e2
 by_cases e3:x.2.2.2.1=true
 ·simp only [e3,Bool.not_true,Bool.false_eq_true,if_false] at hR
  have hlen:0<x.2.1.sec.shards.length:=by have:=G.one hs.2 (by rw [G.p9 e3];omega);omega
  have hst:=ado x.2.1 G.l.se hlen
  have hn:=lI hlen
  have hsm:=oV G.l.se 0
  generalize eH x.2.1.sec.shards 0=s at hR hn hsm
  generalize settle x.2.1=y at hR hst
  refine Fn.aT dA CU (by simp) ?_
  unfold yx SC.mk' ak.enc Task.enc
  simp only [go_sem]
  have aI:=dw t 3 5
  have hJ:=ah hg (ah p0 (ah p1 (ah e1' (ah e2 e3))))
  repeat' first
   |(first|refine sC ?_|refine sD ?_|refine sZ ?_|refine sY ?_|refine sF ?_);simp only [hJ,go_sem]
   |(first|refine bF (fun hq=> ?_) (fun hq=> ?_)|refine dY (fun hq=> ?_) (fun hq=> ?_)|refine dL (fun hq=> ?_) (fun hq=> ?_))<;>simp only [hq,hJ,go_sem]
   |refine sM ?_;simp only [ay,rv,au,get,hJ,go_sem]
   |refine bn ?_
   |fail
  all_goals clear aI hJ
  simp only [hn,aj.enc,List.length_map,go_sem]
  repeat (refine bn ?_)
  have aI:=dw t 3 5
  have aU:=lG s x.2.1.hnd.route hsm
  have bK:=ji x.2.1 {aV.z with err:=y.2,id:=x.2.1.hnd.id} k hrl hel
  try dsimp only at bK
  have eF:=ji x.2.1 {aV.z with err:=y.2} k hrl hel
  try dsimp only at eF
  have hJ:=ah hg (ah p0 (ah p1 (ah e1' (ah e2 (ah e3 hn)))))
  exact aY
 ·simp only [Bool.not_eq_true] at e3
  simp only [e3,Bool.not_false,if_true] at hR
  refine Fn.aT dA CU (by simp) ?_
  unfold yx SC.mk' ak.enc Task.enc
  simp only [go_sem]
  have aI:=dw t 3 5
  have hJ:=ah hg (ah p0 (ah p1 (ah e1' (ah e2 e3))))
  exact aY
end Go.Eng
