/-
  Part of a proof: lemmas and definitions of this work.
  No condition.
-/
import Derived.Test.YthhjbngoibmpgaaGreatH08
import Derived.Test.YthhjbngoibmpgaaGreatH15
set_option linter.all false
set_option maxRecDepth 100000
set_option maxHeartbeats 8000000
namespace Go.Eng
open Go Go.Proofs
theorem PI (id:Int):∀ (l:List Span) (i:Nat),o8 id l i= -1\/∃ k:Nat,o8 id l i=((i+k:Nat):Int)/\k<l.length
 |[],i=> .inl rfl
 |d::r,i=>by
  simp only [o8]
  split
  ·exact .inr ⟨0,by simp,by simp⟩
  ·rcases PI id r (i+1) with h|⟨k,h1,h2⟩
   ·exact .inl h
   ·exact .inr ⟨k+1,by rw [h1];omega,by simp;omega⟩
theorem abY (d:Dir) (id:Int):d.idx id= -1\/∃ k:Nat,d.idx id=(k:Int)/\k<d.l.length:=by
 unfold Dir.idx
 rcases PI id d.l 0 with h|⟨k,h1,h2⟩
 ·exact .inl h
 ·exact .inr ⟨k,by rw [h1,Nat.zero_add],h2⟩
attribute [local go_sem] aY
@[simp] theorem af2 {α β:Type} (f:α->β) (l:List α):List.take l.length (l.map f)=l.map f:=eZ (by simp)
theorem PK {α:Type} (x:α) (j:Nat):List.replicate j x++[x]=List.replicate (j+1) x:=by rw [List.replicate_succ',]
theorem PL {a b:Int} (h0:0<=a) (h1:a<=1000000) (h2:1<=b):0<=a.tdiv b/\a.tdiv b<=1000000:=by
 refine ⟨Int.tdiv_nonneg h0 (by omega),?_⟩
 rw [Int.tdiv_eq_ediv_of_nonneg h0]
 exact Int.le_trans (Int.ediv_le_self b h0) h1
end Go.Eng
namespace Go.Eng
open Go Go.Proofs
theorem Io (a:Int): -1<=a.tmod 2/\a.tmod 2<=1:=⟨by have:=Int.lt_tmod_of_pos a (show (0:Int)<2 by decide);omega,by have:=Int.tmod_lt_of_pos a (show (0:Int)<2 by decide);omega⟩
theorem mT (x:aG):aG.enc x=[I x.seq,I x.epoch,I x.ready,I x.dH]:=rfl
theorem PN (l:List aG) (hl:l.length<=1000):Fn Tryz.prog 28 [.sl 4 (l.map aG.enc)] [] (Bo (nX l)) [] []:=by
 generalize hR:nX l=R
 refine Fn.aB Zf (by simp) ?_
 unfold EC SC.mk'
 simp only [go_sem]
 refine go_loop (fun j:{j:Nat // j<=l.length/\nX (l.drop j)=R}=>⟨1000,[(0,.sl 4 (l.map aG.enc)),(3,I j.1)],[]⟩) (fun j=>l.length - j.1) ⟨0,by omega,hR⟩ (wk [] []) ?_
 rintro ⟨j,hj,he⟩ B hB
 simp only [go_sem]
 by_cases e1:j<l.length
 ·have e2:decide ((j:Int)<(l.length:Int))=true:=by simp;omega
  rw [fZ aG.z e1] at he
  simp only [nX,List.all_cons,show l[j]?.getD aG.z=fC l j from rfl] at he
  have hx:nth (l.map aG.enc) j=aG.enc (fC l j):=fJ aG.enc aG.z e1
  have hw:=cZ (show j<=100000 by omega)
  generalize fC l j=x at hx he
  have ht:=Io x.seq
  have hw3:IntKind.i64.wrap (x.seq.tmod 2)=x.seq.tmod 2:=cu (by omega)
  simp only [e2,hx,hw3,mT,vQ,List.length_map,Int.toNat_natCast,go_sem]
  repeat (refine bn ?_)
  by_cases e3:(x.seq.tmod 2 !=0)=true
  ·have e4:(x.seq.tmod 2==0)=false:=by simpa using e3
   simp only [e4,Bool.false_and] at he
   simp only [e3,go_sem]
   exact Fin.bA _ rfl rfl (by rw [<-he];rfl)
  ·have e4:(x.seq.tmod 2==0)=true:=by simpa using e3
   simp only [e4,Bool.true_and] at he
   simp only [Bool.not_eq_true] at e3
   simp only [e3,hw,go_sem]
   exact hB _ ⟨j+1,by omega,he⟩ (by simp only;omega) (wk [] [])
 ·have e2:decide ((j:Int)<(l.length:Int))=false:=by simp;omega
  rw [iY (by omega)] at he
  simp only [e2,go_sem]
  exact Fin.bA _ rfl rfl (by rw [<-he];rfl)
end Go.Eng
