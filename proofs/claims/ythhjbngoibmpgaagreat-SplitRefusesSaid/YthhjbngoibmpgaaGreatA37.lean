/-
  Part of a proof: lemmas and definitions of this work.
  No condition.
-/
import Derived.Test.YthhjbngoibmpgaaGreatA08
import Derived.Test.YthhjbngoibmpgaaGreatA36
set_option linter.all false
set_option maxRecDepth 100000
set_option maxHeartbeats 8000000
namespace Go.Eng
open Go Go.Proofs
attribute [local go_sem] aj.enc av.enc Task.enc Ev.enc bD.enc bf.enc cB.enc Dead.enc Dir.enc ak.enc Walk.enc aV.enc aJ.enc bL.enc Setup.enc aS dY dZ List.length_map
theorem aom (b:List UInt8):yP b= .aF [.agg (tC b).1.enc,I (tC b).2]:=by
 unfold yP tC
 cases parse b<;>rfl
theorem p09 (b:List UInt8):Fn Tryz.prog 88 [gK b] [] (.aF [.agg (tC b).1.enc,I (tC b).2]) [] []:=by
 rw [<-aom];exact abL b
theorem Xo (a:aj) (t:Task) (k:Int) {n:Nat} (ha:a.wf n) (hal:a.aW) (ht:t.wf n) (hl:t.aW) (hk1:3<=t.inv.kind) (hk2:t.inv.kind<=5) (hd:t.dn=false):Fn Tryz.prog 37 [.agg a.enc,.agg t.enc,I k] [] (dA (mg a t k)) [] []:=by
 generalize hR:mg a t k=R
 unfold mg at hR
 simp only at hR
 have hg:t.guard 3 5=0:=by simp [Task.guard,hd,-Int.not_lt,-Int.not_le];omega
 simp only [hg,ne_eq,not_true_eq_false,if_false] at hR
 have h1:=kJ hl
 have h2:=kK hl
 have hdl:=NR ha
 by_cases p0:(t.pc==0)=true
 ·simp only [if_pos p0] at hR
  have he:t.entry.toNat<t.inv.tokens.length:=by
   have h:=hl.en
   have h0:=hl.e0
   unfold bM.entries at h
   have e1:(t.inv.kind==1)=false:=by simp;omega
   have e2:(t.inv.kind==3||(t.inv.kind==4||t.inv.kind==5))=true:=by simp;omega
   simp only [e1,e2,if_true,Bool.false_eq_true,if_false] at h
   omega
  have hn:=abM he
  have hpp:=p09 (Nj t.inv.tokens t.entry.toNat)
  change nth _ _=[gK (Nj t.inv.tokens t.entry.toNat)] at hn
  generalize hb:Nj t.inv.tokens t.entry.toNat=b at hR hn hpp
  generalize tC b=x at hR hpp
  generalize hkd:setKind t.inv.kind=kd at hR
  refine Fn.aT bY Au (by simp) ?_
  unfold wo SC.mk' aj.enc Task.enc
  simp only [go_sem]
  have aK:=bZ t 3 5
  have aU:=Xn t.inv.kind
  have bK:=DU t kd k
  have dV:=iH t {aV.z with err:=5} k h1 h2
  try dsimp only at dV
  have fQ:=vv {t with hnd:=x.1,pc:=1} [x.1.hint] 2 (by simp)
  try dsimp only at fQ
  have hJ:=ah hg (ah p0 (ah hn (ah hkd Hd.enc.eq_1)))
  exact aY
 simp only [if_neg p0] at hR
 simp only [Bool.not_eq_true] at p0
 by_cases p1:(t.pc==1)=true
 ·simp only [if_pos p1] at hR
  refine Fn.aT bY Au (by simp) ?_
  unfold wo SC.mk' aj.enc Task.enc
  simp only [go_sem]
  have aK:=bZ t 3 5
  have aU:=Xi a t t.hnd.route 2 hdl
  have hJ:=ah hg (ah p0 p1)
  exact aY
 simp only [if_neg p1] at hR
 simp only [Bool.not_eq_true] at p1
 have hs:t.sec.wf n/\cu n t.sec.lock.cells=1:=by
  have hpc:=ht.k3 hk1 hk2
  simp only [beq_eq_false_iff_ne] at p0 p1
  rcases hpc with h|⟨_,h|h⟩<;>first|omega|exact h
 have hgo:=nC a t k ha hal hs.1 hl.se
 have G:=go_ok (k:=k) ha hal hs.1 hl
 generalize t.go a k=x at hR hgo G
 by_cases e1:x.2.2.2.2≠0
 ·rw [if_pos e1] at hR
  have bV:(x.2.2.2.2 !=0)=true:=by simpa using e1
  refine Fn.aT bY Au (by simp) ?_
  unfold wo SC.mk' aj.enc Task.enc
  simp only [go_sem]
  have aK:=bZ t 3 5
  have aU:=jY x.2.2.2.2
  have hJ:=ah hg (ah p0 (ah p1 bV))
  exact aY
 rw [if_neg e1] at hR
 have bV:(x.2.2.2.2 !=0)=false:=by simpa using e1
 have G:=G (Decidable.not_not.1 e1)
 have hrl:=kJ G.l
 have hel:=kK G.l
 by_cases e2:x.2.2.1=true
 ·rw [if_pos e2] at hR
  have hdc:=aol x.2.1 G.l.se G.cl (by have:=G.one hs.2 (by rw [G.p4 e2];omega);omega)
  refine Fn.aT bY Au (by simp) ?_
  unfold wo SC.mk' aj.enc Task.enc
  simp only [go_sem]
  have aK:=bZ t 3 5
  have hJ:=ah hg (ah p0 (ah p1 (ah bV e2)))
  exact aY
 rw [if_neg e2] at hR
 simp only [Bool.not_eq_true] at e2
 by_cases e3:x.2.2.2.1=true
 ·simp only [e3,Bool.not_true,Bool.false_eq_true,if_false] at hR
  have hlen:0<x.2.1.sec.aN.length:=by have:=G.one hs.2 (by rw [G.p9 e3];omega);omega
  have hst:=adr x.2.1 G.l.se hlen
  have hn:=kI hlen
  have hsm:=nA G.l.se 0
  generalize dW x.2.1.sec.aN 0=s at hR hn hsm
  generalize settle x.2.1=y at hR hst
  refine Fn.aT bY Au (by simp) ?_
  unfold wo SC.mk' aj.enc Task.enc
  simp only [go_sem]
  have aK:=bZ t 3 5
  have hJ:=ah hg (ah p0 (ah p1 (ah bV (ah e2 e3))))
  repeat' first
   |(first|refine sC ?_|refine sD ?_|refine sZ ?_|refine sY ?_|refine sF ?_);simp only [hJ,go_sem]
   |(first|refine bC (fun hq=> ?_) (fun hq=> ?_)|refine dR (fun hq=> ?_) (fun hq=> ?_)|refine dD (fun hq=> ?_) (fun hq=> ?_))<;>simp only [hq,hJ,go_sem]
   |refine sM ?_;simp only [ay,rv,au,get,hJ,go_sem]
   |refine bn ?_
   |fail
  all_goals clear aK hJ
  simp only [hn,ak.enc,List.length_map,go_sem]
  repeat (refine bn ?_)
  have aK:=bZ t 3 5
  have aU:=kG s x.2.1.hnd.route hsm
  have bK:=iH x.2.1 {aV.z with err:=y.2,id:=x.2.1.hnd.id} k hrl hel
  try dsimp only at bK
  have dV:=iH x.2.1 {aV.z with err:=y.2} k hrl hel
  try dsimp only at dV
  have hJ:=ah hg (ah p0 (ah p1 (ah bV (ah e2 (ah e3 hn)))))
  exact aY
 ·simp only [Bool.not_eq_true] at e3
  simp only [e3,Bool.not_false,if_true] at hR
  refine Fn.aT bY Au (by simp) ?_
  unfold wo SC.mk' aj.enc Task.enc
  simp only [go_sem]
  have aK:=bZ t 3 5
  have hJ:=ah hg (ah p0 (ah p1 (ah bV (ah e2 e3))))
  exact aY
end Go.Eng
