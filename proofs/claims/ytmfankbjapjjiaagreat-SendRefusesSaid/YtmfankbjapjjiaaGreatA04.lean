/-
  Part of a proof: lemmas and definitions of this work.
  No condition.
-/
import Derived.Test.YtmfankbjapjjiaaGreatA03
set_option linter.all false
set_option maxRecDepth 100000
set_option maxHeartbeats 8000000
namespace Go.Eng
open Go
theorem VR.EN {w w':World} {ok ok':Nat->Prop} {ρ ρ':Nat->Loc} {U U':Nat->Prop} {S:List (Nat×Nat)} (hS:∀ k b,get S k=some b->U' k/\ρ' k=ρ b) {y:AV} {u:Value} (h:VR w ok ρ U y u) (hn:na y=true):
 ∀ x,rv [] S [] x y->VR w' ok' ρ' U' x u:=by
 have key:VR w' ok' ρ U y u:=by
  induction h with
  |p h=>exact .p (h.na hn)
  |agg hl _ ih=>exact .agg hl fun i c u h1 h2=>ih i c u h1 h2 (mQ _ (by simpa [na] using hn) i c h1)
  |aG hl _ ih=>exact .aG hl fun i c u h1 h2=>ih i c u h1 h2 (mQ _ (by simpa [na] using hn) i c h1)
  |fn hf hl _ ih=>exact .fn hf hl fun i c u h1 h2=>ih i c u h1 h2 (mQ _ (by simpa [na] using hn) i c h1)
  |own hu h=>exact .own hu h
  |ptr=>simp [na] at hn
  |rp=>simp [na] at hn
  |mp=>simp [na] at hn
 exact key.rn hS (fun _ h=>h) (fun _ _=>rfl)
theorem fK.EN {w':World} {ok ok':Nat->Prop} {ρ ρ':Nat->Loc} {U U':Nat->Prop} {S:List (Nat×Nat)} (hS:∀ k b,get S k=some b->U' k/\ρ' k=ρ b) {l:Loc} {x y:Ob} (h:fK w' ok ρ U l y) (hn:lW y)
 (hx:bK [] S [] x y):fK w' ok' ρ' U' l x:=by
 cases y with
 |box cs=>
  cases x with
  |box ds=>
   simp only [bK] at hx
   obtain ⟨g,o,n,e,cells,h1,h2,h3,h4,h5⟩:=h
   have h6:=iX _ _ hx
   refine ⟨g,o,n,e,cells,h1,h2,h3,by omega,fun j c hj=> ?_⟩
   obtain ⟨z,h7,h8⟩:=iY _ _ hx j c hj
   obtain ⟨u,hu,hv⟩:=h5 j z h7
   exact ⟨u,hu,hv.EN hS (hn z (List.mem_of_getElem? h7)) c h8⟩
  |_=>simp only [bK] at hx
 |row e sz xs=>
  cases x with
  |row e' sz' ys=>
   simp only [bK] at hx
   obtain ⟨rfl,rfl,rfl⟩:=hx
   rcases h with h|⟨g,o,n,cells,h1,h2,h3,h4,h5,h6⟩
   ·exact .inl h
   ·refine .inr ⟨g,o,n,cells,h1,h2,h3,h4,h5,fun k x j c hk hj=> ?_⟩
    obtain ⟨u,hu,h1c,hv⟩:=h6 k x j c hk hj
    exact ⟨u,hu,h1c,hv.na (hn x (List.mem_of_getElem? hk) c (List.mem_of_getElem? hj))⟩
  |_=>simp only [bK] at hx
 |_=>simp [lW] at hn
section
variable {P:Program} {f:FuncId} {xs ys:List AV} {bs bs' cs':List (List AV)} {es es':List Ob} {r r':AV} {h:List (Nat×Ob)} {B:List Nat} {nm:Nat} {Q:AV->List (Nat×Ob)->Prop}
theorem fP.EI (hF:fP P f xs bs [] r bs' es) (ha:au h (dU B []) [] xs ys)
 (hbl:bs.length=B.length) (hB4:B.length<=4) (Pm:B.Nodup)
 (hb:∀ (i b:Nat),B[i]? =some b->∃ cs cs0,bs[i]? =some cs/\get h b=some (.box cs0)/\au [] (dU B []) [] cs cs0)
 (ahU:bs'.length=B.length) (hcl':cs'.length=B.length) (hb':∀ (i:Nat) (c:List AV),cs'[i]? =some c->∃ x,bs'[i]? =some x/\jP x=true/\au [] (jo B nm es.length) [] c x)
 (hel:es'.length=es.length) (hm:es.length<=8) (he:∀ (i:Nat) (y:Ob),es'[i]? =some y->∃ x,es[i]? =some x/\lW x/\bK [] (jo B nm es.length) [] y x)
 (hna:na r=true) (hr':rv [] (jo B nm es.length) [] r' r) (hQ:Q r' (dB nm es'++(gu B cs'++h))):rR P nm f ys h Q:=by
 refine ⟨hF.1,fun C ρ U w vals hr hfr hvl=> ?_⟩
 have uh:∀ b ∈ B,U b/\∃ cs0,get h b=some (.box cs0):=fun b iy=>by
  obtain ⟨i,hi⟩:=List.mem_iff_getElem?.1 iy
  obtain ⟨cs,cs0,_,h2,_⟩:=hb i b hi
  exact ⟨(hr.hp b _ h2).1,cs0,h2⟩
 let C':Ctx:=⟨w,aP C (dK ρ (dU B []) []) w,(fun g=>∃ b ∈ B,∃ o n,ρ b=Loc.at g o n),(fun i=>(B[i]?).map ρ),0,(fun g hg=>by
  obtain ⟨b,iy,o,n,hl⟩:=hg
  obtain ⟨i,hi⟩:=List.mem_iff_getElem?.1 iy
  exact ⟨i,o,n,by simp [hi,hl]⟩),(fun i l hl=>by
  rcases Nat.lt_or_ge i B.length with h1|h1
  ·omega
  ·simp [List.getElem?_eq_none h1] at hl),(fun _=>False),(fun _ h=>h.elim)⟩
 let ρc:Nat->Loc:=dK ρ (dU B []) []
 let Uc:Nat->Prop:=fun k=>∃ b,get (dU B []) k=some b
 have qG:∀ k b,get (dU B []) k=some b->ρc k=ρ b:=fun k b hk=>xL hk
 have uj:∀ k g o n,ρc k= .at g o n->∃ b,get (dU B []) k=some b/\ρ b= .at g o n:=fun k g o n hk=>by
  cases hs:get (dU B []) k with
  |none=>
   have:ρc k= .dead:=by show dK ρ (dU B []) [] k=_;simp [dK,hs]
   rw [this] at hk;cases hk
  |some b=>exact ⟨b,rfl,by rw [<-qG k b hs];exact hk⟩
 have hown0:∀ g,jv ρc g->jv ρ g:=fun g ⟨k,o,n,hk⟩=>by
  obtain ⟨b,_,hb⟩:=uj k g o n hk
  exact ⟨b,o,n,hb⟩
 have Zl:∀ g,aP C ρc w g->aP C' ρc w g:=fun g hg=>⟨.inl hg,hg.2.1,hg.2.2⟩
 have hok:∀ g,aP C ρ w g->aP C' ρc w g:=fun g hg=>Zl g (YX hg)
 have EL:∀ k b,get (dU B []) k=some b->Uc k/\ρc k=ρ b:=fun k b hk=>⟨⟨b,hk⟩,qG k b hk⟩
 have Pn:∀ k,Uc k->k<8:=fun k ⟨b,hk⟩=>by
  rcases rU hk with h1|⟨h1,h2⟩
  ·have:=(List.getElem?_eq_some_iff.1 h1).1;omega
  ·simp at h2
 have hr0:HR C' ρc Uc (outs bs []) w:=by
  refine ⟨fun k o hk=> ?_,fun k hk=> ?_,fun k k' g o n o' n' h1 h2=> ?_,rfl,rfl,rfl,Nat.le_refl _,fun g _ _ _=>rfl,
   fun g hg=>⟨hg.2.1,fun ⟨b,iy,o,n,hl⟩=>by
    obtain ⟨i,hi⟩:=List.mem_iff_getElem?.1 iy
    have hs:=EK (G:=[]) hi hB4
    exact hg.2.2 ⟨i,o,n,(qG i b hs).trans hl⟩,fun h=>h⟩,fun g ho=> ?_,fun i l hi=> ?_⟩
  ·unfold outs at hk
   rw [get_append,gq,jl] at hk
   simp only [Nat.zero_le,if_true,Nat.sub_zero,List.getElem?_map] at hk
   cases hbk:bs[k]? with
   |some cs=>
    rw [hbk] at hk
    simp only [Option.map_some,Option.some.injEq] at hk
    subst hk
    have hlt:k<B.length:=by rw [<-hbl];exact (List.getElem?_eq_some_iff.1 hbk).1
    have hib:B[k]? =some B[k]:=List.getElem?_eq_getElem hlt
    obtain ⟨cs1,cs0,h1,h2,h3⟩:=hb k _ hib
    rw [hbk] at h1;cases h1
    have hs:=EK (G:=[]) hib hB4
    refine ⟨⟨_,hs⟩,?_⟩
    rw [qG k _ hs]
    exact (hr.hp _ _ h2).2.rn EL hok (fun _ _=>rfl) (fun _ _ _ _=>rfl) (by simp only [bK];exact h3)
   |none=>
    rw [hbk] at hk
    simp only [Option.map_none] at hk
    simp [dB,get] at hk
  ·cases hs:get (dU B []) k with
   |none=>show dK ρ (dU B []) [] k=_;simp [dK,hs]
   |some b=>
    unfold outs at hk
    rw [get_append,gq,jl] at hk
    simp only [Nat.zero_le,if_true,Nat.sub_zero,List.getElem?_map] at hk
    rcases rU hs with h1|⟨h1,h2⟩
    ·have hlt:k<bs.length:=by rw [hbl];exact (List.getElem?_eq_some_iff.1 h1).1
     rw [List.getElem?_eq_getElem hlt] at hk
     simp at hk
    ·simp at h2
  ·obtain ⟨b,hs,hl⟩:=uj k g o n h1
   obtain ⟨b',hs',hl'⟩:=uj k' g o' n' h2
   have e:=hr.inj b b' g o n o' n' hl hl'
   subst e
   rcases rU hs with h3|⟨h3,h4⟩<;>rcases rU hs' with h5|⟨h5,h6⟩
   ·obtain ⟨p1,q1⟩:=List.getElem?_eq_some_iff.1 h3
    obtain ⟨p2,q2⟩:=List.getElem?_eq_some_iff.1 h5
    exact (List.getElem_inj Pm).1 (q1.trans q2.symm)
   ·exact absurd h6 (by simp)
   ·exact absurd h4 (by simp)
   ·simp at h4
  ·obtain ⟨k,o,n,hk⟩:=ho
   obtain ⟨b,hs,hl⟩:=uj k g o n hk
   refine ⟨?_,(hr.dJ g ⟨b,o,n,hl⟩).2⟩
   rcases rU hs with h3|⟨h3,h4⟩
   ·exact .inl ⟨b,List.mem_of_getElem? h3,o,n,hl⟩
   ·simp at h4
  ·have hlt:i<B.length:=by
    rcases Nat.lt_or_ge i B.length with h1|h1
    ·exact h1
    ·simp [C',List.getElem?_eq_none h1] at hi
   have hib:B[i]? =some B[i]:=List.getElem?_eq_getElem hlt
   obtain ⟨cs,cs1,h1,h2,h3⟩:=hb i _ hib
   have hs:=EK (G:=[]) hib hB4
   refine ⟨?_,⟨_,hs⟩,cs,?_⟩
   ·rw [qG i _ hs]
    simp only [C',hib,Option.map_some,Option.some.injEq] at hi
    exact hi
   ·exact CU h1
 have xS:VL w (aP C' ρc w) ρc Uc xs vals:=by
  have hl:=iX _ _ ha
  refine ⟨by rw [hl];exact hvl.1,fun i x u hi hu=> ?_⟩
  obtain ⟨y,hy,hxy⟩:=iY _ _ ha i x hi
  exact (kS hr (hvl.2 i y u hy hu) x hxy).mono Zl (fun _ _=>rfl) (fun k hk=>by
   rcases hk with hk|hk
   ·exact vI hk
   ·simp at hk) (fun _ _=> .inl rfl)
 refine (hF.2 C' ρc Uc w vals hr0 Pn xS).mono fun e w' hpost=> ?_
 obtain ⟨v,ρ1,U1,rfl,hr1,hv1⟩:=hpost
 let ρ2:Nat->Loc:=fun k=>if nm<=k/\k<nm+es.length then ρ1 (4+(k - nm)) else ρ k
 let U2:Nat->Prop:=fun k=>U k\/(nm<=k/\k<nm+es.length)
 have xV:∀ k,nm<=k/\k<nm+es.length->ρ2 k=ρ1 (4+(k - nm)):=fun k hk=>by show (if _ then _ else _)=_;rw [if_pos hk]
 have qH:∀ k,U k->ρ2 k=ρ k:=fun k hk=>by
  show (if _ then _ else _)=_
  rw [if_neg (fun hh=>hfr k hk ⟨hh.1,by omega⟩)]
 have hsz:w.heap.size<=w'.heap.size:=hr1.size
 have hoff:∀ i g o n,i<es.length->ρ1 (4+i)= .at g o n->w.heap.size<=g/\g<w'.heap.size:=fun i g o n hi hl=>by
  obtain ⟨h1,h2⟩:=hr1.dJ g ⟨_,o,n,hl⟩
  refine ⟨?_,h2⟩
  rcases h1 with h1|h1|h1
  ·obtain ⟨b,o',n',hb⟩:=C'.Cs g h1
   obtain ⟨h3,_,_⟩:=hr1.fix b _ hb
   have:=hr1.inj (4+i) b g o n o' n' hl h3
   have:=C'.KQ b _ hb
   omega
  ·exact h1.elim
  ·exact h1
 have hold:∀ k g o n,ρ k= .at g o n->g<w.heap.size:=fun k g o n hl=>(hr.dJ g ⟨k,o,n,hl⟩).2
 have hheap:∀ g,g<w.heap.size->(∀ b ∈ B,∀ o n,ρ b≠.at g o n)->w'.heap[g]? =w.heap[g]? :=fun g hg h1=>
  hr1.old g hg (fun ⟨b,iy,o,n,hl⟩=>h1 b iy o n hl) (fun h=>h)
 have hcase:∀ k g o n,ρ2 k= .at g o n->(∃ i,k=nm+i/\i<es.length/\ρ1 (4+i)= .at g o n)\/ρ k= .at g o n:=fun k g o n hk=>by
  by_cases h1:nm<=k/\k<nm+es.length
  ·rw [xV k h1] at hk
   exact .inl ⟨k - nm,by omega,by omega,hk⟩
  ·have:ρ2 k=ρ k:=by show (if _ then _ else _)=_;rw [if_neg h1]
   rw [this] at hk
   exact .inr hk
 have hok2:∀ g,aP C ρ w g->aP C ρ2 w' g:=fun g hg=>⟨hg.1,by have:=hg.2.1;omega,fun ⟨k,o,n,hk⟩=>by
  rcases hcase k g o n hk with ⟨i,rfl,hi,hl⟩|hl
  ·have:=(hoff i g o n hi hl).1
   have:=hg.2.1;omega
  ·exact hg.2.2 ⟨k,o,n,hl⟩⟩
 have vL:∀ g,aP C ρ w g->w'.heap[g]? =w.heap[g]? :=fun g hg=>hheap g hg.2.1 (fun b _ o n hl=>hg.2.2 ⟨b,o,n,hl⟩)
 have pG:Later U ρ ρ2:=fun k hk=> .inl (qH k hk)
 have hSo:∀ k i,get (jo B nm es.length) k=some i->U2 k/\ρ2 k=ρ1 i:=fun k i hk=>by
  rcases Zc hk with h1|⟨h1,h2,rfl⟩
  ·have hkB:=List.mem_of_getElem? h1
   have hfx:=(hr1.fix i (ρ k) (by show (B[i]?).map ρ=_;rw [h1];rfl)).1
   exact ⟨.inl (uh k hkB).1,by rw [qH k (uh k hkB).1,hfx]⟩
  ·exact ⟨.inr ⟨h1,h2⟩,xV k ⟨h1,h2⟩⟩
 refine ⟨v,r',_,ρ2,U2,rfl,⟨fun k o hk=> ?_,fun k hk=> ?_,fun k k' g o n o' n' h1 h2=> ?_,hr1.os.trans hr.os,hr1.tape.trans hr.tape,hr1.output.trans hr.output,Nat.le_trans hr.size hsz,
  fun g hg he hv=> ?_,hr.jw,fun g ho=> ?_,fun b l hb2=> ?_⟩,hv1.EN hSo hna r' hr',fun x u hx=>hx.mono hok2 vL (fun k hk=> .inl hk) pG,fun b hb2=> ?_,hQ⟩
 ·rw [get_append,jl] at hk
  by_cases hin:nm<=k/\k<nm+es.length
  ·have hi:k - nm<es'.length:=by omega
   rw [if_pos hin.1,List.getElem?_eq_getElem hi] at hk
   cases hk
   obtain ⟨x,hx1,hxn,hx2⟩:=he (k - nm) _ (List.getElem?_eq_getElem hi)
   refine ⟨.inr hin,?_⟩
   rw [xV k hin]
   have hgt:get (outs bs' es) (4+(k - nm))=some x:=Lg (by omega) hx1
   exact (hr1.hp _ _ hgt).2.EN hSo hxn hx2
  ·have hno:(if nm<=k then es'[k - nm]? else none)=none:=by
    split
    ·exact List.getElem?_eq_none (by omega)
    ·rfl
   rw [hno] at hk
   simp only [get_append] at hk
   cases hbx:get (gu B cs') k with
   |some o'=>
    rw [hbx] at hk;cases hk
    obtain ⟨i,c2,h1,h2,rfl⟩:=xN B cs' k _ hbx
    have hkB:=List.mem_of_getElem? h1
    refine ⟨.inl (uh k hkB).1,?_⟩
    obtain ⟨x,hx1,hxn,hx2⟩:=hb' i c2 h2
    have hfx:=(hr1.fix i (ρ k) (by show (B[i]?).map ρ=_;rw [h1];rfl)).1
    rw [qH k (uh k hkB).1,<-hfx]
    exact (hr1.hp i _ (CU hx1)).2.EN hSo (fun c hc=>by
     obtain ⟨j,hj⟩:=List.mem_iff_getElem?.1 hc
     exact mQ _ hxn j c hj) (by simp only [bK];exact hx2)
   |none=>
    rw [hbx] at hk
    simp only at hk
    obtain ⟨tZ,ho⟩:=hr.hp k o hk
    refine ⟨.inl tZ,?_⟩
    rw [qH k tZ]
    refine fK.mono hok2 vL (fun k hk=> .inl hk) pG (fun g o n hl=>hheap g (hold k g o n hl) (fun b iy o' n' hb2=> ?_)) ho
    have:=hr.inj k b g o n o' n' hl hb2
    subst this
    exact Lh B cs' k hbx hcl'.symm iy
 ·rw [get_append,jl] at hk
  have hin:¬ (nm<=k/\k<nm+es.length):=fun hh=>by
   rw [if_pos hh.1,List.getElem?_eq_getElem (show k - nm<es'.length by omega)] at hk
   cases hk
  have hno:(if nm<=k then es'[k - nm]? else none)=none:=by
   split
   ·exact List.getElem?_eq_none (by omega)
   ·rfl
  rw [hno] at hk
  simp only [get_append] at hk
  show (if _ then _ else _)=_
  rw [if_neg hin]
  cases hbx:get (gu B cs') k with
  |some o'=>rw [hbx] at hk;cases hk
  |none=>
   rw [hbx] at hk
   simp only at hk
   exact hr.hd k hk
 ·rcases hcase k g o n h1 with ⟨i,rfl,hi,hl⟩|hl<;>rcases hcase k' g o' n' h2 with ⟨i',rfl,hi',hl'⟩|hl'
  ·have:=hr1.inj _ _ g o n o' n' hl hl'
   omega
  ·have:=(hoff i g o n hi hl).1
   have:=hold _ g o' n' hl';omega
  ·have:=(hoff i' g o' n' hi' hl').1
   have:=hold _ g o n hl;omega
  ·exact hr.inj _ _ g o n o' n' hl hl'
 ·have hg':g<w.heap.size:=Nat.lt_of_lt_of_le hg hr.size
  rw [<-hr.old g hg he hv]
  have key:∀ b o n,ρ b≠.at g o n:=fun b o n hl=>by
   rcases (hr.dJ g ⟨b,o,n,hl⟩).1 with h1|h1|h1
   ·exact he h1
   ·exact hv h1
   ·omega
  exact hheap g hg' (fun b _=>key b)
 ·obtain ⟨k,o,n,hk⟩:=ho
  rcases hcase k g o n hk with ⟨i,rfl,hi,hl⟩|hl
  ·have h1:=hoff i g o n hi hl
   exact ⟨.inr (.inr (Nat.le_trans hr.size h1.1)),h1.2⟩
  ·exact ⟨(hr.dJ g ⟨k,o,n,hl⟩).1,by have:=hold k g o n hl;omega⟩
 ·obtain ⟨h1,h2,cs0,h3⟩:=hr.fix b l hb2
  refine ⟨by rw [qH b h2];exact h1,.inl h2,?_⟩
  have hin:¬ (nm<=b/\b<nm+es.length):=fun hh=>hfr b h2 ⟨hh.1,by omega⟩
  have hno:(if nm<=b then es'[b - nm]? else none)=none:=by
   split
   ·exact List.getElem?_eq_none (by omega)
   ·rfl
  rw [get_append,jl,hno]
  simp only [get_append]
  cases hbx:get (gu B cs') b with
  |some o'=>
   obtain ⟨i,c2,_,_,rfl⟩:=xN B cs' b _ hbx
   exact ⟨c2,rfl⟩
  |none=>
   exact ⟨cs0,h3⟩
 ·rcases hb2 with h1|h1
  ·exact .inl h1
  ·exact .inr ⟨h1.1,by omega⟩
end
end Go.Eng
namespace Go.Eng
open Go
def EO:eG:= .block 999999 (.loop (.exit 999999))
def mark (p:List aH->Bool):eG->eG
 | .region ops d=>bif p ops then .seq EO (.region ops d) else .region ops d
 | .seq a b=> .seq (mark p a) (mark p b)
 | .cond c x y=> .cond c (mark p x) (mark p y)
 | .block id c=> .block id (mark p c)
 | .loop c=> .loop (mark p c)
 |c=>c
section
variable {P:Program} {C:Ctx}
theorem ah0 {p:List aH->Bool} (hm:P.follows .mixedOrders=true) (c:Code):∀ (sc:eG),fM P c=some sc->iV C.nt sc=true->
 ∀ (Q:Exit->St->Prop) (K:Exit->Act->World->Prop) (s:St) (a:Act) (w:World),At C s a w->iq P (mark p sc) Q s->
  (∀ e s' a' w',At C s' a' w'->Q e s'->K e a' w')->c.wp P K a w:=by
 induction c with
 |skip=>
  intro sc hs hok Q K s a w hA hw hK
  cases hs
  exact vH hm _ _ rfl hok Q K s a w hA hw hK
 |region id ops draw=>
  intro sc hs hok Q K s a w hA hw hK
  have hs0:=hs
  simp only [fM] at hs
  split at hs
  ·rename_i l hl
   cases hs
   simp only [mark] at hw
   cases hp:p l with
   |false=>
    rw [hp] at hw
    exact vH hm _ _ hs0 hok Q K s a w hA hw hK
   |true=>
    rw [hp] at hw
    obtain ⟨α,S,μ,a0,hW,hb⟩:=hw
    exact vH hm _ _ hs0 hok Q K (S a0) a w (hW.at hA) (hb a0) hK
  ·cases hs
 |seq x y xK ihy=>
  intro sc hs hok Q K s a w hA hw hK
  simp only [fM] at hs
  split at hs
  ·rename_i x' hx
   split at hs
   ·rename_i y' hy
    cases hs
    simp only [iV,Bool.and_eq_true] at hok
    refine wp_seq (xK x' hx hok.1 _ _ s a w hA hw fun e s' a' w' hA' hQ=> ?_)
    cases e with
    |normal=>exact ihy y' hy hok.2 Q K s' a' w' hA' hQ hK
    |exit i=>exact hK _ _ _ _ hA' hQ
    |goto l=>exact hK _ _ _ _ hA' hQ
    |ret=>exact hK _ _ _ _ hA' hQ
    |panic ch=>exact hK _ _ _ _ hA' hQ
    |outgrown=>exact hK _ _ _ _ hA' hQ
   ·cases hs
  ·cases hs
 |cond c x y xK ihy=>
  intro sc hs hok Q K s a w hA hw hK
  simp only [fM] at hs
  split at hs
  ·rename_i x' hx
   split at hs
   ·rename_i y' hy
    cases hs
    simp only [iV,Bool.and_eq_true] at hok
    simp only [mark,iq] at hw
    unfold qC at hw
    split at hw
    ·rename_i b hb
     have kR:=hA
     obtain ⟨ρ,U,hS,hU⟩:=hA
     have hc:=(bM hS.tm hb).dG
     exact wp_cond_split hc (fun hb=>xK x' hx hok.1 Q K s a w kR (hw.1 hb) hK) (fun hb=>ihy y' hy hok.2 Q K s a w kR (hw.2 hb) hK)
    ·exact hw.elim
    ·exact hw.elim
   ·cases hs
  ·cases hs
 |block id c ih=>
  intro sc hs hok Q K s a w hA hw hK
  simp only [fM] at hs
  split at hs
  ·rename_i c' hc
   cases hs
   simp only [iV] at hok
   refine wp_block (ih c' hc hok _ _ s a w hA hw fun e s' a' w' hA' hQ=> ?_)
   cases e with
   |exit i=>
    simp only [En] at hQ
    simp only [Exit.inBlock]
    split
    ·rename_i h;rw [if_pos h] at hQ;exact hK _ _ _ _ hA' hQ
    ·rename_i h;rw [if_neg h] at hQ;exact hK _ _ _ _ hA' hQ
   |normal=>exact hK _ _ _ _ hA' hQ
   |goto l=>exact hK _ _ _ _ hA' hQ
   |ret=>exact hK _ _ _ _ hA' hQ
   |panic ch=>exact hK _ _ _ _ hA' hQ
   |outgrown=>exact hK _ _ _ _ hA' hQ
  ·cases hs
 |loop c ih=>
  intro sc hs hok Q K s a w hA hw hK
  simp only [fM] at hs
  split at hs
  ·rename_i c' hc
   cases hs
   simp only [iV] at hok
   obtain ⟨α,S,μ,a0,hW,hb⟩:=hw
   refine wp_loop (fun a w=>∃ x,At C (S x) a w) (CQ C S μ) ⟨a0,hW.at hA⟩ fun a w hI=> ?_
   obtain ⟨x0,hx0⟩:=hI
   obtain ⟨_,x,hx,hA'⟩:=Ld (μ:=μ) hx0
   refine ih c' hc hok _ _ (S x) a w hA' (hb x) fun e s' a' w' nQ hQ=> ?_
   cases e with
   |normal=>
    obtain ⟨x',hlt,hW'⟩:=hQ
    have h1:=hW'.at nQ
    refine ⟨⟨x',h1⟩,?_⟩
    have:=(Ld (μ:=μ) h1).1
    omega
   |exit i=>exact hK _ _ _ _ nQ hQ
   |goto l=>exact hK _ _ _ _ nQ hQ
   |ret=>exact hK _ _ _ _ nQ hQ
   |panic ch=>exact hK _ _ _ _ nQ hQ
   |outgrown=>exact hK _ _ _ _ nQ hQ
  ·cases hs
 |exit id=>
  intro sc hs hok Q K s a w hA hw hK
  cases hs
  exact vH hm _ _ rfl hok Q K s a w hA hw hK
 |ret=>
  intro sc hs hok Q K s a w hA hw hK
  cases hs
  exact vH hm _ _ rfl hok Q K s a w hA hw hK
 |_=>intro sc hs;simp [fM] at hs
end
theorem ah1 {P:Program} {Q:Exit->St->Prop} {c:eG} {s:St} (h:go P [.code c] Q s.n s.t s.h):iq P c Q s:=by
 have e:(fun (e:Exit) (s':St)=>match e with
  | .normal=>jm P Q [] s'
  | .exit id=>jm.gW P Q id [] s'
  |e=>Q e s')=Q:=by funext e s';cases e<;>rfl
 have h':iq P c (fun (e:Exit) (s':St)=>match e with
  | .normal=>jm P Q [] s'
  | .exit id=>jm.gW P Q id [] s'
  |e=>Q e s') s:=h
 rw [e] at h'
 exact h'
theorem Fn.aT {P:Program} {f:FuncId} {sc:eG} {res:List iE} {nt:Nat} (p:List aH->Bool) (hok:aA P f sc res nt) {xs:List AV} {bs:List (List AV)} {r:AV} {bs':List (List AV)} {es:List Ob}
 (hn:xs.length<=nt) (hgo:go P [.code (mark p sc)] (Lm res r bs' es) 8 (pI 0 xs) (gq 0 bs)):Fn P f xs bs r bs' es:=by
 obtain ⟨⟨fn,c,hf,hnm,hb,hs,hres,hr4,rfl⟩,hoc,hm⟩:=hok
 refine ⟨⟨fn,hf,hnm,by rw [hb];rfl⟩,fun C ρ U w vals hr hU hv=> ?_⟩
 let C1:Ctx:={C with nt:=fn.ntmps}
 have hr1:HR C1 ρ U (gq 0 bs) w:=⟨hr.hp,hr.hd,hr.inj,hr.os,hr.tape,hr.output,hr.size,hr.old,hr.jw,hr.dJ,hr.fix⟩
 refine calls_of_wp hf hb (ah0 (p:=p) (C:=C1) hm c sc hs hoc _ _ ⟨8,pI 0 xs,gq 0 bs⟩ _ w ⟨ρ,U,⟨hr1,fun k x hk=> ?_,rfl,?_⟩,fun b hb=>by have:=hU b hb;simp only;omega⟩ (ah1 hgo) fun e s a w' hA hQ=> ?_)
 ·rw [Ll] at hk
  simp only [Nat.zero_le,if_true,Nat.sub_zero] at hk
  have hlt:k<vals.size:=by rw [<-hv.1];exact (List.getElem?_eq_some_iff.1 hk).1
  refine ⟨vals[k],?_,hv.2 k x _ hk (Array.getElem?_eq_getElem hlt)⟩
  simp [Array.getElem?_append,hlt]
 ·have:=hv.1
  simp only [Array.size_append,Array.size_replicate]
  show _=fn.ntmps
  omega
 ·have fin:Fin res r bs' es s.t s.h->a.defers=[]/\∃ v,(results fn a.tmps).run P w'= .ok v w'/\∃ v_1 ρ' U',Ending.returned v=Ending.returned v_1/\HR C ρ' U' (outs bs' es) w'/\VR w' (aP C ρ' w') ρ' U' r v_1:=fun hF=>by
   obtain ⟨S,N,ys,h1,h2,h3,h4,h5⟩:=hF
   obtain ⟨ρ1,U1,hS,_⟩:=hA
   obtain ⟨vs,h6,h7,h8,h9⟩:=CS (P:=P) hS.hr hS.tm fn.results.toList res ys hres h1
   refine ⟨hS.defers,_,Le a.tmps w' rfl h6 hr4 h8,_,dK ρ1 S N,jy S N,rfl,?_,?_⟩
   ·have:=vJ hS.hr h2 h3 h4
    exact ⟨this.hp,this.hd,this.inj,this.os,this.tape,this.output,this.size,this.old,this.jw,this.dJ,this.fix⟩
   ·exact kS hS.hr (Lf (by omega) h9) r h5
  cases e with
  |normal=>exact fin hQ
  |ret=>exact fin hQ
  |exit i=>exact hQ.elim
  |goto l=>exact hQ.elim
  |panic ch=>exact hQ.elim
  |outgrown=>exact hQ.elim
section
variable {P:Program} {k:List It} {Q:Exit->St->Prop} {n:Nat} {t:List (Nat×AV)} {h:List (Nat×Ob)} {p:List aH->Bool}
def LD (P:Program) (b:Bool) (ops:List aH) (d:Bool) (k:List It) (Q:Exit->St->Prop) (n:Nat) (t:List (Nat×AV)) (h:List (Nat×Ob)):Prop:=
 go P (.code (bif b then .seq EO (.region ops d) else .region ops d)::k) Q n t h
def vQ (P:Program) (k:List It) (Q:Exit->St->Prop) (n:Nat) (t:List (Nat×AV)) (h:List (Nat×Ob)):Prop:=go P (.code EO::k) Q n t h
theorem ah2 (ops:List aH) (d:Bool):go P (.code (mark p (.region ops d))::k) Q n t h=LD P (p ops) ops d k Q n t h:=(rfl)
theorem ah3 (ops:List aH) (d:Bool):LD P false ops d k Q n t h=go P (.code (.region ops d)::k) Q n t h:=(rfl)
theorem ah4 (ops:List aH) (d:Bool):LD P true ops d k Q n t h=vQ P (.code (.region ops d)::k) Q n t h:=by
 unfold LD vQ
 exact O8 _ _
theorem ah5 (a b:eG):go P (.code (mark p (.seq a b))::k) Q n t h=go P (.code (mark p a):: .code (mark p b)::k) Q n t h:=O8 _ _
theorem ah6 (c:Operand) (x y:eG):go P (.code (mark p (.cond c x y))::k) Q n t h=xO P (ev t c) (mark p x) (mark p y) k Q n t h:=(rfl)
theorem ah7 (id:Nat) (c:eG):go P (.code (mark p (.block id c))::k) Q n t h=go P (.code (mark p c):: .blk id::k) Q n t h:=Li _ _
theorem ah8 (c:eG):go P (.code (mark p (.loop c))::k) Q n t h=go P (.code (.loop (mark p c))::k) Q n t h:=(rfl)
theorem ah9:go P (.code (mark p .skip)::k) Q n t h=go P k Q n t h:=(rfl)
theorem aia (id:Nat):go P (.code (mark p (.exit id))::k) Q n t h=gW P id k Q n t h:=(rfl)
theorem aib:go P (.code (mark p .ret)::k) Q n t h=Q .ret ⟨n,t,h⟩:=(rfl)
theorem LF {t':List (Nat×AV)} {h':List (Nat×Ob)} (hw:Wk ⟨n,t,h⟩ ⟨n,t',h'⟩) (hk:go P k Q n t' h'):vQ P k Q n t h:=by
 unfold vQ EO
 rw [Li]
 refine go_loop (fun _:Unit=>⟨n,t',h'⟩) (fun _=>0) () hw fun _ B hB=> ?_
 rw [O9,Pd,Pb,if_pos rfl]
 exact hk
theorem ul (hk:go P k Q n t h):vQ P k Q n t h:=by
 unfold vQ EO
 rw [Li]
 refine go_loop (fun _:Unit=>⟨n,t,h⟩) (fun _=>0) () (fun C ρ U a w hR hU=>⟨ρ,U,hR,hU⟩) fun _ B hB=> ?_
 rw [O9,Pd,Pb,if_pos rfl]
 exact hk
end
attribute [go_sem] ah2 ah3 ah4 ah5 ah6 ah7 ah8 ah9 aia aib
def rV:List Nat->Nat->Bool
 |[],_=>false
 |a::l,b=>(a==b)||rV l b
theorem EP:∀ (l:List Nat) (b:Nat),rV l b=true↔b ∈ l
 |[],b=>by simp [rV]
 |a::l,b=>by
  simp only [rV,Bool.or_eq_true,beq_iff_eq,EP l b,List.mem_cons]
  exact ⟨fun h=>h.imp Eq.symm id,fun h=>h.imp Eq.symm id⟩
def Pq (b sz off len:Nat):Option Ob->AV
 |some (.row _ _ xs)=> .sl sz ((xs.drop off).take len)
 |_=> .own b sz off len
mutual
def pM (h:List (Nat×Ob)):AV->AV
 | .own b sz off len=>Pq b sz off len (get h b)
 | .agg cs=> .agg (rW h cs)
 | .aG cs=> .aG (rW h cs)
 | .fn f cs=> .fn f (rW h cs)
 | .v x=> .v x
 | .sl sz xs=> .sl sz xs
 | .ptr b j=> .ptr b j
 | .rp b sz i j=> .rp b sz i j
 | .dI cs j=> .dI cs j
 | .mp b=> .mp b
def rW (h:List (Nat×Ob)):List AV->List AV
 |[]=>[]
 |c::cs=>pM h c::rW h cs
end
def Ps (sz off len:Nat):Option Ob->Prop
 |some (.row _ sz' xs)=>sz=sz'/\off+len<=xs.length
 |_=>False
def Zm:Option Ob->Prop
 |some (.box _)=>True
 |_=>False
mutual
def CZ (h:List (Nat×Ob)):AV->Prop
 | .own b sz off len=>Ps sz off len (get h b)
 | .agg cs=>vR h cs
 | .aG cs=>vR h cs
 | .fn _ cs=>vR h cs
 | .v _=>True
 | .sl _ _=>True
 | .ptr b _=>Zm (get h b)
 | .rp _ _ _ _=>False
 | .dI _ _=>True
 | .mp _=>False
def vR (h:List (Nat×Ob)):List AV->Prop
 |[]=>True
 |c::cs=>CZ h c/\vR h cs
end
def Pt:Ob->Bool
 | .box _=>true
 |_=>false
def gy:List Nat->List (Nat×Ob)->List Nat
 |_,[]=>[]
 |s,(k,o)::l=>if rV s k=true then gy s l else if Pt o=true then k::gy (k::s) l else gy (k::s) l
def LG (h:List (Nat×Ob)) (k:Nat) (r:List (Nat×Ob)):Option Ob->List (Nat×Ob)
 |some (.box cs)=>(k,.box (rW h cs))::r
 |_=>r
def rX (h:List (Nat×Ob)):List Nat->List (Nat×Ob)
 |[]=>[]
 |k::l=>LG h k (rX h l) (get h k)
def Zn (h:List (Nat×Ob)):Option Ob->Prop
 |some (.box cs)=>vR h cs
 |_=>True
def C8 (h:List (Nat×Ob)):List Nat->Prop
 |[]=>True
 |k::l=>Zn h (get h k)/\C8 h l
def Zo (sz:Nat):Option Ob->Bool
 |some (.row _ sz' _)=>sz==sz'
 |_=>false
def Zp:Option Ob->Bool
 |some (.box _)=>true
 |_=>false
def kp (h:List (Nat×Ob)):AV->Bool
 | .v _=>true
 | .sl _ _=>true
 | .own b sz _ _=>Zo sz (get h b)
 | .ptr b _=>Zp (get h b)
 |_=>false
def um (h:List (Nat×Ob)):List Nat->List (Nat×AV)->List (Nat×AV)
 |_,[]=>[]
 |s,(k,x)::l=>if rV s k=true then um h s l else if kp h x=true then (k,pM h x)::um h (k::s) l else um h (k::s) l
def vS (h:List (Nat×Ob)):List Nat->List (Nat×AV)->Prop
 |_,[]=>True
 |s,(k,x)::l=>if rV s k=true then vS h s l else if kp h x=true then CZ h x/\vS h (k::s) l else vS h (k::s) l
def ku (l:List Nat):List (Nat×Nat):=l.map fun k=>(k,k)
theorem Zq (l:List Nat) (b:Nat):get (ku l) b=if b ∈ l then some b else none:=by
 induction l with
 |nil=>rfl
 |cons a l ih=>
  simp only [ku,List.map_cons,get] at ih ⊢
  by_cases e:a=b
  ·subst e;simp
  ·rw [if_neg e,ih]
   simp [Ne.symm e]
theorem LH (h0:List (Nat×Ob)):∀ (l:List (Nat×Ob)) (s:List Nat),(∀ k,k ∉ s->get h0 k=get l k)->(∀ b,b ∈ gy s l↔(b ∉ s/\∃ cs,get h0 b=some (.box cs)))/\(gy s l).Nodup
 |[],s,hh=>by
  refine ⟨fun b=>⟨fun h=>by simp [gy] at h,fun ⟨h1,cs,h2⟩=> ?_⟩,by simp [gy]⟩
  rw [hh b h1] at h2
  cases h2
 |(k,o)::l,s,hh=>by
  simp only [gy]
  by_cases hm:rV s k=true
  ·rw [if_pos hm]
   have hk:=(EP s k).1 hm
   refine LH h0 l s fun b hb=> ?_
   rw [hh b hb,ji]
   intro e;subst e;exact hb hk
  ·rw [if_neg hm]
   have hk:k ∉ s:=fun h=>hm ((EP s k).2 h)
   have ih:=LH h0 l (k::s) fun b hb=>by
    have hb:=fun q=>hb (List.mem_cons.2 q)
    rw [hh b (fun h=>hb (.inr h)),ji]
    intro e;exact hb (.inl e.symm)
   have h0k:get h0 k=some o:=by rw [hh k hk,nH]
   by_cases hb:Pt o=true
   ·rw [if_pos hb]
    have ho:∃ cs,o= .box cs:=by cases o<;>first|exact ⟨_,rfl⟩|cases hb
    obtain ⟨cs,rfl⟩:=ho
    refine ⟨fun b=> ?_,List.nodup_cons.2 ⟨fun h=>((ih.1 k).1 h).1 (by simp),ih.2⟩⟩
    rw [List.mem_cons,ih.1 b]
    constructor
    ·rintro (rfl|⟨h1,h2⟩)
     ·exact ⟨hk,_,h0k⟩
     ·exact ⟨fun h=>h1 (List.mem_cons_of_mem _ h),h2⟩
    ·rintro ⟨h1,h2⟩
     by_cases e:b=k
     ·exact .inl e
     ·exact .inr ⟨fun h=>by rcases List.mem_cons.1 h with h|h;exact e h;exact h1 h,h2⟩
   ·rw [if_neg hb]
    refine ⟨fun b=> ?_,ih.2⟩
    rw [ih.1 b]
    constructor
    ·rintro ⟨h1,h2⟩
     exact ⟨fun h=>h1 (List.mem_cons_of_mem _ h),h2⟩
    ·rintro ⟨h1,cs,h2⟩
     refine ⟨fun h=> ?_,cs,h2⟩
     rcases List.mem_cons.1 h with h|h
     ·subst h;rw [h0k] at h2;cases h2;exact hb rfl
     ·exact h1 h
theorem C9 (h:List (Nat×Ob)) (b:Nat):b ∈ gy [] h↔∃ cs,get h b=some (.box cs):=by
 rw [(LH h h [] fun _ _=>rfl).1 b];simp
section
variable (h:List (Nat×Ob))
mutual
theorem Zr:∀ (x:AV),CZ h x->rv h (ku (gy [] h)) [] (pM h x) x
 | .own b sz off len,hp=>by
  simp only [CZ] at hp
  simp only [pM]
  cases hg:get h b with
  |none=>rw [hg] at hp;exact hp.elim
  |some o=>
   rw [hg] at hp
   cases o with
   |row e sz' xs=>
    simp only [Ps] at hp
    simp only [Pq,rv,hg]
    refine ⟨fun hb=> ?_,trivial,hp.1,hp.2,trivial⟩
    have:b ∈ gy [] h:=by
     simp only [ku,List.map_map,List.mem_map] at hb
     obtain ⟨k,h1,rfl⟩:=hb
     exact h1
    obtain ⟨cs,h2⟩:=(C9 h b).1 this
    rw [hg] at h2
    cases h2
   |_=>exact hp.elim
 | .agg cs,hp=>by simp only [pM,rv];exact EQ cs hp
 | .aG cs,hp=>by simp only [pM,rv];exact EQ cs hp
 | .fn f cs,hp=>by simp only [pM,rv];exact ⟨trivial,EQ cs hp⟩
 | .v x,hp=>by simp only [pM,rv]
 | .sl sz xs,hp=>by simp only [pM,rv,and_self]
 | .ptr b j,hp=>by
  simp only [CZ] at hp
  simp only [pM,rv,and_true]
  rw [Zq,if_pos]
  rw [C9]
  cases hg:get h b with
  |none=>rw [hg] at hp;exact hp.elim
  |some o=>rw [hg] at hp;cases o<;>first|exact ⟨_,rfl⟩|exact hp.elim
 | .rp b sz i j,hp=>hp.elim
 | .dI cs j,hp=>by simp only [pM,rv,and_self]
 | .mp b,hp=>hp.elim
theorem EQ:∀ (cs:List AV),vR h cs->au h (ku (gy [] h)) [] (rW h cs) cs
 |[],_=>by simp only [rW,au]
 |c::cs,hp=>by simp only [rW,au];exact ⟨Zr c hp.1,EQ cs hp.2⟩
end
theorem Zt:∀ (l:List Nat) (b:Nat),(∀ k ∈ l,∃ cs,get h k=some (.box cs))->get (rX h l) b=if b ∈ l then (match get h b with
 |some (.box cs)=>some (.box (rW h cs))
 |_=>none) else none
 |[],b,_=>rfl
 |k::l,b,hk=>by
  obtain ⟨cs,hc⟩:=hk k (by simp)
  have ih:=Zt l b fun j hj=>hk j (List.mem_cons_of_mem _ hj)
  simp only [rX,hc,LG,get]
  by_cases e:k=b
  ·subst e;simp [hc]
  ·rw [if_neg e,ih]
   have:(b ∈ k::l)=(b ∈ l):=by simp [Ne.symm e]
   simp only [this]
theorem Zu:∀ (l:List Nat),C8 h l->∀ b ∈ l,∀ cs,get h b=some (.box cs)->vR h cs
 |[],_,b,hb,_,_=>by cases hb
 |k::l,hp,b,hb,cs,hc=>by
  rcases List.mem_cons.1 hb with rfl|hb
  ·have:=hp.1;rw [hc] at this;exact this
  ·exact Zu l hp.2 b hb cs hc
theorem Zv:∀ (l:List Nat),(∀ k ∈ l,∃ cs,get h k=some (.box cs))->(rX h l).map Prod.fst=l
 |[],_=>rfl
 |k::l,hk=>by
  obtain ⟨cs,hc⟩:=hk k (by simp)
  simp only [rX,hc,LG,List.map_cons,Zv l fun j hj=>hk j (List.mem_cons_of_mem _ hj)]
theorem Zw:∀ (l:List Nat),(∀ k ∈ l,k ∈ gy [] h)->C8 h (gy [] h)->cO h (ku (gy [] h)) [] (rX h (gy [] h)) (ku l)
 |[],_,_=>by simp only [ku,List.map_nil,cO]
 |k::l,hl,hp=>by
  have hk:=hl k (by simp)
  obtain ⟨cs,hc⟩:=(C9 h k).1 hk
  have ih:=Zw l (fun j hj=>hl j (List.mem_cons_of_mem _ hj)) hp
  simp only [ku,List.map_cons,cO] at ih ⊢
  refine ⟨?_,ih⟩
  have h1:=Zt h (gy [] h) k fun j hj=>(C9 h j).1 hj
  rw [if_pos hk,hc] at h1
  simp only at h1
  simp only [h1,hc,bK]
  exact EQ h cs (Zu h _ hp k hk cs hc)
theorem LJ (t0:List (Nat×AV)):∀ (l:List (Nat×AV)) (s:List Nat),(∀ k,k ∉ s->get t0 k=get l k)->vS h s l->d9 h (ku (gy [] h)) [] t0 (um h s l)
 |[],s,_,_=>by simp only [um,d9]
 |(k,x)::l,s,hh,hp=>by
  simp only [vS] at hp
  simp only [um]
  by_cases hm:rV s k=true
  ·rw [if_pos hm] at hp ⊢
   have hk:=(EP s k).1 hm
   refine LJ t0 l s (fun b hb=> ?_) hp
   rw [hh b hb,ji]
   intro e;subst e;exact hb hk
  ·rw [if_neg hm] at hp ⊢
   have hk:k ∉ s:=fun h=>hm ((EP s k).2 h)
   have Da:∀ b,b ∉ k::s->get t0 b=get l b:=fun b hb=>by
    have hb:=fun q=>hb (List.mem_cons.2 q)
    rw [hh b (fun h=>hb (.inr h)),ji]
    intro e;exact hb (.inl e.symm)
   by_cases hx:kp h x=true
   ·rw [if_pos hx] at hp ⊢
    simp only [d9]
    refine ⟨?_,LJ t0 l (k::s) Da hp.2⟩
    rw [hh k hk,nH]
    exact Zr h x hp.1
   ·rw [if_neg hx] at hp ⊢
    exact LJ t0 l (k::s) Da hp
theorem aic:iD h (ku (gy [] h)) [] (rX h (gy [] h))=true:=by
 have hn:=(LH h h [] fun _ _=>rfl).2
 have e1:(ku (gy [] h)).map Prod.snd=gy [] h:=by simp [ku,Function.comp_def]
 have e2:(ku (gy [] h)).map Prod.fst=gy [] h:=by simp [ku,Function.comp_def]
 have hk:∀ b,nS h (ku (gy [] h)) b=true:=fun b=>by
  unfold nS
  split
  ·rename_i cs hc
   rw [Zq,if_pos ((C9 h b).2 ⟨cs,hc⟩)]
   simp
  ·rfl
 unfold iD
 rw [e1,e2,Zv h _ fun j hj=>(C9 h j).1 hj]
 simp [hn,hk]
end
def ER (n:Nat):List Nat->Bool
 |[]=>true
 |k::l=>Nat.blt k n&&ER n l
theorem Zx {n:Nat}:∀ {l:List Nat},ER n l=true->∀ k ∈ l,k<n
 |[],_,k,hk=>by cases hk
 |a::l,h,k,hk=>by
  simp only [ER,Bool.and_eq_true] at h
  rcases List.mem_cons.1 hk with rfl|hk
  ·have:=h.1;rwa [Nat.blt_eq] at this
  ·exact Zx h.2 k hk
section
variable {P:Program} {k:List It} {Q:Exit->St->Prop} {n:Nat} {t:List (Nat×AV)} {h:List (Nat×Ob)}
theorem Db {B:List Nat} (hB:gy [] h=B) (hn:ER n B=true) (hp:C8 h B/\vS h [] t) (hk:go P k Q n (um h [] t) (rX h B)):vQ P k Q n t h:=by
 subst hB
 refine LF (Wk.mk (ku (gy [] h)) [] (aic h) ?_ (Zw h _ (fun _ h=>h) hp.1) trivial (LJ h t t [] (fun _ _=>rfl) hp.2)) hk
 simp only [ku,List.map_map,List.append_nil,List.all_eq_true,List.mem_map,Function.comp]
 rintro b ⟨c,hc,rfl⟩
 exact decide_eq_true (Zx hn c hc)
end
def Zy:gm->Bool
 | .call _ _=>true
 | .lD _ _ zs _ _=>decide (10<=zs.length)
 |_=>false
def bS:List aH->Bool
 |[]=>false
 |o::l=>Zy o.op||bS l
def Zz:gm->Bool
 | .lD _ _ zs _ _=>decide (10<=zs.length)
 |_=>false
def bY:List aH->Bool
 |[]=>false
 |o::l=>Zz o.op||bY l
attribute [go_sem] Zz bY
attribute [go_sem ↓] reduceIte
attribute [go_sem] Bool.true_or Bool.or_true Bool.false_or Bool.or_false Bool.or_self
attribute [go_sem] rV Pq pM rW Ps Zm CZ vR Pt gy LG rX Zn C8 Zo Zp kp um vS Zy bS
end Go.Eng
namespace Go.Eng
open Go
def Pv (a b:ByteArray):ByteArray:=⟨(a.data.toList++b.data.toList).toArray⟩
theorem aid (a b:ByteArray):a++b=Pv a b:=by
 obtain ⟨⟨a⟩⟩:=a
 obtain ⟨⟨b⟩⟩:=b
 apply ByteArray.ext
 simp [Pv]
def Pw (s:ByteArray) (l r:Nat):ByteArray:=⟨((s.data.toList.take r).drop l).toArray⟩
theorem aie (s:ByteArray) (l r:Nat):s.extract l r=Pw s l r:=by
 obtain ⟨⟨s⟩⟩:=s
 apply ByteArray.ext
 simp [Pw,List.extract_eq_take_drop,List.drop_take]
def ES:BinOp->Value->Value->Option Value
 | .eql,.string a,.string b=>some (.bool (a.data.toList==b.data.toList))
 | .neq,.string a,.string b=>some (.bool (!(a.data.toList==b.data.toList)))
 |op,x,y=>kM op x y
theorem aif (op:BinOp) (x y:Value):kM op x y=ES op x y:=by
 unfold ES
 split<;>simp [kM,ByteArray.toList_eq]
def pO:BinOp->Value->Value->Option (Bool×Value)
 | .quo,.int k a,.int k' b=>if k=k' then some (decide (b≠0),.int k (k.wrap (a.tdiv b))) else none
 | .rem,.int k a,.int k' b=>if k=k' then some (decide (b≠0),.int k (a.tmod b)) else none
 | .shl,.int k a,.int _ b=>some (decide (0<=b),.int k (k.wrap (a*2 ^ (min b.toNat k.bits))))
 | .shr,.int k a,.int _ b=>some (decide (0<=b),.int k (a.fdiv (2 ^ (min b.toNat k.bits))))
 | .add,.string a,.string b=>some (decide (a.size+b.size<=maxLen),.string (Pv a b))
 |_,_,_=>none
theorem ZA (op:BinOp) (x y:Value):mO op x y=(pO op x y).map fun p=>(p.1=true,p.2):=by
 unfold mO
 split
 ·simp only [pO];split<;>simp
 ·simp only [pO];split<;>simp
 ·simp [pO]
 ·simp [pO]
 ·simp [pO,aid]
 ·rename_i h1 h2 h3 h4 h5
  unfold pO
  split
  ·exact (h1 _ _ _ _ rfl rfl rfl).elim
  ·exact (h2 _ _ _ _ rfl rfl rfl).elim
  ·exact (h3 _ _ _ _ rfl rfl rfl).elim
  ·exact (h4 _ _ _ _ rfl rfl rfl).elim
  ·exact (h5 _ _ rfl rfl rfl).elim
  ·rfl
def Dc:List Nat->List AV->List AV->Option Bool
 |[],[],[]=>some true
 |0::ks,.v (.int k a)::l,.v (.int k' b)::l'=>if k=k' then (match Dc ks l l' with
  |some r=>some ((a==b)&&r)
  |none=>none) else none
 |1::ks,.v (.string a)::l,.v (.string b)::l'=>match Dc ks l l' with
  |some r=>some ((a.data.toList==b.data.toList)&&r)
  |none=>none
 |2::ks,.v (.bool a)::l,.v (.bool b)::l'=>match Dc ks l l' with
  |some r=>some ((a==b)&&r)
  |none=>none
 |_,_,_=>none
theorem aii:∀ (ks:List Nat) (l l':List AV),jI ks l l'=Dc ks l l':=by
 intro ks l l'
 induction ks,l,l' using jI.induct<;>simp_all [jI,Dc,ByteArray.toList_eq]
def rY (h:List (Nat×Ob)) (sz:Nat):Option AV->Option (Bool×List (List AV))
 |some (.v (.slice none 0 0))=>some (true,[])
 |some (.sl sz' xs)=>if sz=sz' then some (true,xs) else none
 |some (.own b sz' off len)=>match get h b with
  |some (.row _ dR xs)=>if sz=sz'/\sz=dR then some (decide (off+len<=xs.length),(xs.drop off).take len) else none
  |_=>none
 |_=>none
theorem aij (h:List (Nat×Ob)) (sz:Nat) (x:Option AV):j6 h sz x=(rY h sz x).map fun p=>(p.1=true,p.2):=by
 unfold j6
 split
 ·simp [rY]
 ·simp only [rY];split<;>simp_all
 ·rename_i b sz' off len
  simp only [rY]
  cases hg:get h b with
  |none=>rfl
  |some o=>
   cases o with
   |row e dR xs=>simp only;split<;>simp
   |_=>rfl
 ·rename_i h1 h2 h3
  unfold rY
  split
  ·exact (h1 rfl).elim
  ·exact (h2 _ _ rfl).elim
  ·exact (h3 _ _ _ _ rfl).elim
  ·rfl
def kz (nm:Nat) (t:List (Nat×AV)) (h:List (Nat×Ob)):gm->Option E
 | .bin op x y=>match ev t x,ev t y with
  |some (.v a),some (.v b)=>match ES op a b with
   |some c=>E.ok (.v c)
   |none=>match pO op a b with
    |some (p,c)=>some ⟨p=true,.v c,[]⟩
    |none=>none
  |_,_=>none
 | .eqs neg ks x y=>match ev t x,ev t y with
  |some (.agg a),some (.agg b)=>match Dc ks a b with
   |some c=>E.ok (.v (.bool (if neg then !c else c)))
   |none=>none
  |_,_=>none
 | .mK x lo hi=>match ev t x,bound t 0 lo with
  |some (.v (.string s)),some l=>match bound t s.size hi with
   |some r=>some ⟨0<=l/\l<=r/\r<=s.size,.v (.string (Pw s l.toNat r.toNat)),[]⟩
   |none=>none
  |_,_=>none
 |op=>aM nm t h op
theorem LK (nm:Nat) (t:List (Nat×AV)) (h:List (Nat×Ob)) (op:gm):aM nm t h op=kz nm t h op:=by
 cases op
 case bin op x y=>
  simp only [aM,kz]
  rcases ev t x with _|X
  ·rfl
  rcases ev t y with _|Y
  ·cases X<;>rfl
  cases X<;>try rfl
  cases Y<;>try rfl
  rename_i a b
  simp only [aif,ZA]
  cases ES op a b with
  |some c=>rfl
  |none=>cases pO op a b<;>rfl
 case eqs neg ks x y=>simp only [aM,kz,aii];rfl
 case mK x lo hi=>simp only [aM,kz,aie];rfl
 all_goals rfl
def preB (t:List (Nat×AV)) (h:List (Nat×Ob)):gm->Bool
 | .load ag sz x=>match ev t x with
  |some (.rp b _ k j)=>match get h b with
   |some (.row _ dR xs)=>if ag then decide (k<xs.length/\j+sz<=dR) else decide (k<xs.length/\j<dR)
   |_=>false
  |_=>true
 | .store sz x _=>match ev t x with
  |some (.rp b _ k j)=>match get h b with
   |some (.row _ dR xs)=>decide (k<xs.length/\j+sz<=dR)
   |_=>false
  |_=>true
 | .bin op x y=>match ev t x,ev t y with
  |some (.v a),some (.v b)=>match kM op a b with
   |some _=>true
   |none=>match pO op a b with
    |some (p,_)=>p
    |none=>false
  |_,_=>false
 | .mJ x=>match rY h 1 (ev t x) with
  |some (p,_)=>p
  |none=>false
 | .nI _ _ bytes _ l c=>match ev t l,ev t c with
  |some (.v (.int _ n)),some (.v (.int _ m))=>decide (0<=n/\n=m/\n*bytes<=140737488355328/\n<=9223372036854775807)
  |_,_=>false
 | .app _ sz bytes _ s x=>match ev t s,rY h sz (ev t x) with
  |some (.v (.slice none 0 0)),some (p,news)=>p&&decide (news.length*bytes<=140737488355328/\news.length<=maxLen)
  |some (.fn 2000000 [.sl _ xs]),some (p,news)=>if 0<news.length then p&&decide ((xs.length+news.length)*bytes<=140737488355328/\xs.length+news.length<=maxLen) else p
  |some (.own b _ off len),some (p,news)=>match get h b with
   |some (.row _ _ xs)=>if off+len+news.length<=xs.length then p else p&&decide ((len+news.length)*bytes<=140737488355328/\len+news.length<=maxLen/\off+len<=xs.length)
   |_=>false
  |_,_=>false
 | .slice _ x lo hi (some m)=>match hi with
  |some y=>match ev t x,bound t 0 lo,ev t y,ev t m with
   |some (.sl _ xs),some l,some (.v (.int _ r)),some (.v (.int _ c))=>decide (l=0/\r=c/\r=xs.length)
   |some (.v (.slice none 0 0)),some l,some (.v (.int _ r)),some (.v (.int _ c))=>decide (l=0/\r=0/\c=0)
   |some (.own _ _ _ len),some l,some (.v (.int _ r)),some (.v (.int _ c))=>decide (0<=l/\l<=r/\r<=c/\c<=len)
   |_,_,_,_=>false
  |none=>false
 | .slice sz x lo hi none=>match ev t x,bound t 0 lo with
  |some (.sl _ xs),some l=>match bound t xs.length hi with
   |some r=>decide (0<=l/\l<=r/\r<=xs.length)
   |none=>false
  |some (.own b _ off len),some l=>match get h b,bound t len hi with
   |some (.row _ dR xs),some r=>decide (0<=l/\l<=r/\(r<=len\/(0<sz/\sz=dR/\off+r.toNat<=xs.length)))
   |_,_=>false
  |some (.v (.slice none 0 0)),some l=>match bound t 0 hi with
   |some r=>decide (l=0/\r=0)
   |none=>false
  |_,_=>false
 | .mK x lo hi=>match ev t x,bound t 0 lo with
  |some (.v (.string s)),some l=>match bound t s.size hi with
   |some r=>decide (0<=l/\l<=r/\r<=s.size)
   |none=>false
  |_,_=>false
 | .idxs x i=>match ev t x,ev t i with
  |some (.v (.string s)),some (.v (.int _ n))=>decide (0<=n/\n<s.size)
  |_,_=>false
 | .idx ag len sz x i=>match ev t x,ev t i with
  |some (.agg cs),some (.v (.int _ n))=>if ag then decide (0<=n/\n<len/\n.toNat*sz+sz<=cs.length) else decide (0<=n/\n<len)
  |_,_=>false
 | .nK _ _ bytes _ _ x=>match ev t x with
  |some (.v (.int _ n))=>decide (0<n/\n*bytes<=140737488355328/\n<=9223372036854775807)
  |_=>false
 | .nL _ _ x=>match ev t x with
  |some (.own b _ off len)=>match get h b with
   |some (.row _ _ xs)=>decide (off+len<=xs.length)
   |_=>false
  |_=>false
 | .copy sz d x=>match ev t d,rY h sz (ev t x) with
  |some (.own b _ off len),some (p,_)=>match get h b with
   |some (.row _ _ xs)=>p&&decide (off+len<=xs.length)
   |_=>false
  |_,_=>false
 | .lF _ x=>match ev t x with
  |some (.rp b _ k _)=>match get h b with
   |some (.row _ _ xs)=>decide (k<xs.length)
   |_=>false
  |_=>true
 | .nJ _ x i=>match ev t x,ev t i with
  |some (.sl _ xs),some (.v (.int _ n))=>decide (0<=n/\n<xs.length)
  |some (.own _ _ _ len),some (.v (.int _ n))=>decide (0<=n/\n<len)
  |_,_=>false
 |_=>true
theorem ET {h:List (Nat×Ob)} {sz:Nat} {x:Option AV} {p:Prop} {xs:List (List AV)} (e:j6 h sz x=some (p,xs)):∃ q:Bool,rY h sz x=some (q,xs)/\(q=true->p):=by
 rw [aij] at e
 cases hc:rY h sz x with
 |none=>rw [hc] at e;cases e
 |some r=>
  rw [hc] at e
  obtain ⟨q,ys⟩:=r
  simp only [Option.map_some,Option.some.injEq,Prod.mk.injEq] at e
  obtain ⟨rfl,rfl⟩:=e
  exact ⟨q,rfl,fun h=>h⟩
theorem aik {op:BinOp} {a b:Value} {p:Prop} {c:Value} (e:mO op a b=some (p,c)):∃ q:Bool,pO op a b=some (q,c)/\(q=true->p):=by
 rw [ZA] at e
 cases hc:pO op a b with
 |none=>rw [hc] at e;cases e
 |some r=>
  rw [hc] at e
  obtain ⟨q,ys⟩:=r
  simp only [Option.map_some,Option.some.injEq,Prod.mk.injEq] at e
  obtain ⟨rfl,rfl⟩:=e
  exact ⟨q,rfl,fun h=>h⟩
set_option maxHeartbeats 4000000 in
theorem Px {nm:Nat} {t:List (Nat×AV)} {h:List (Nat×Ob)} {op:gm} {e:E} (he:aM nm t h op=some e) (hp:preB t h op=true):e.pre:=by
 cases op
 case bin op x y=>
  simp only [aM,E.ok] at he
  split at he
  ·rename_i a b h1 h2
   split at he
   ·cases he;trivial
   ·rename_i hn
    split at he
    ·rename_i p c hs
     cases he
     obtain ⟨q,h3,h4⟩:=aik hs
     simp only [preB,h1,h2,hn,h3] at hp
     exact h4 hp
    ·cases he
  ·cases he
 case mJ x=>
  simp only [aM,E.ok] at he
  split at he
  ·rename_i p xs h1
   split at he
   ·cases he
    obtain ⟨q,h3,h4⟩:=ET h1
    simp only [preB,h3] at hp
    exact h4 hp
   ·cases he
  ·cases he
 case app ty sz bytes zs x y=>
  simp only [aM,E.ok] at he
  split at he
  ·rename_i p news h1 h2
   cases he
   obtain ⟨q,h3,h4⟩:=ET h2
   simp only [preB,h1,h3,Bool.and_eq_true,decide_eq_true_eq] at hp
   exact ⟨h4 hp.1,hp.2⟩
  ·rename_i sz' xs p news h1 h2
   split at he
   ·obtain ⟨q,h3,h4⟩:=ET h2
    split at he
    ·rename_i hpos
     cases he
     simp only [preB,h1,h3,if_pos hpos,Bool.and_eq_true,decide_eq_true_eq] at hp
     exact ⟨h4 hp.1,hp.2⟩
    ·rename_i hpos
     cases he
     simp only [preB,h1,h3,if_neg hpos] at hp
     exact h4 hp
   ·cases he
  ·rename_i b sz' off len p news h1 h2
   split at he
   ·rename_i e' dR xs hg
    split at he
    ·obtain ⟨q,h3,h4⟩:=ET h2
     split at he
     ·rename_i hrm
      cases he
      simp only [preB,h1,h3,hg,if_pos hrm] at hp
      exact h4 hp
     ·rename_i hrm
      cases he
      simp only [preB,h1,h3,hg,if_neg hrm,Bool.and_eq_true,decide_eq_true_eq] at hp
      exact ⟨h4 hp.1,hp.2⟩
    ·cases he
   ·cases he
  ·cases he
 case copy sz d x=>
  simp only [aM] at he
  split at he
  ·rename_i b sz' off len p ys h1 h2
   split at he
   ·rename_i e' dR xs hg
    split at he
    ·simp only [Option.some.injEq] at he;subst he
     obtain ⟨q,h3,h4⟩:=ET h2
     simp only [preB,h1,h3,hg,Bool.and_eq_true,decide_eq_true_eq] at hp
     exact ⟨h4 hp.1,hp.2⟩
    ·cases he
   ·cases he
  ·cases he
 case nI ty sz bytes zs l c=>
  simp only [aM,E.ok] at he
  split at he
  ·rename_i k n k' m h1 h2
   cases he
   simp only [preB,h1,h2,decide_eq_true_eq] at hp
   exact hp
  ·cases he
 case slice sz x lo hi mx=>
  cases mx with
  |none=>simp only [aM,E.ok] at he;(repeat' split at he)<;>simp_all [preB]<;>(subst he;simp_all)
  |some m=>
   cases hi with
   |none=>simp only [preB] at hp;cases hp
   |some y=>
    simp only [aM] at he
    simp only [preB] at hp
    split at hp
    ·rename_i sz' xs l k r k' c h1 h2 h3 h4
     simp only [h1,h2,h3,h4] at he
     split at he
     ·simp only [Option.some.injEq] at he;subst he;simpa only [decide_eq_true_eq] using hp
     ·cases he
    ·rename_i l k r k' c h1 h2 h3 h4
     simp only [h1,h2,h3,h4,Option.some.injEq] at he
     subst he
     simpa only [decide_eq_true_eq] using hp
    ·rename_i b sz' off len l k r k' c h1 h2 h3 h4
     simp only [h1,h2,h3,h4] at he
     split at he
     ·split at he
      ·simp_all only [Option.some.injEq,decide_eq_true_eq]
       subst he
       simp_all
      ·cases he
     ·cases he
    ·cases hp
 all_goals (simp only [aM,E.ok] at he;(repeat' split at he)<;>simp_all [preB]<;>(subst he;simp_all))
def rZ (S:List (Nat×Nat)) (k b:Nat):Bool:=match get S k with
 |some c=>c==b
 |none=>false
theorem LM {S:List (Nat×Nat)} {k b:Nat} (h:rZ S k b=true):get S k=some b:=by
 unfold rZ at h
 split at h
 ·rename_i c hc;rw [hc,eq_of_beq h]
 ·cases h
mutual
def tr (h:List (Nat×Ob)) (S inv:List (Nat×Nat)):AV->Option AV
 | .own b sz off len=>match get inv b with
  |some k=>bif rZ S k b then some (.own k sz off len) else none
  |none=>bif (S.map Prod.snd).contains b then none else match get h b with
   |some (.row _ dR xs)=>if sz=dR/\off+len<=xs.length then some (.sl sz ((xs.drop off).take len)) else none
   |_=>none
 | .rp b sz i j=>match get inv b with
  |some k=>bif rZ S k b then some (.rp k sz i j) else none
  |none=>bif (S.map Prod.snd).contains b then none else match get h b with
   |some (.row _ dR xs)=>if sz=dR/\i<xs.length then some (.dI (nth xs i) j) else none
   |_=>none
 | .ptr b j=>match get inv b with
  |some k=>bif rZ S k b then some (.ptr k j) else none
  |none=>none
 | .mp b=>match get inv b with
  |some k=>bif rZ S k b then some (.mp k) else none
  |none=>none
 | .agg cs=>match jQ h S inv cs with
  |some ys=>some (.agg ys)
  |none=>none
 | .aG cs=>match jQ h S inv cs with
  |some ys=>some (.aG ys)
  |none=>none
 | .fn f cs=>match jQ h S inv cs with
  |some ys=>some (.fn f ys)
  |none=>none
 | .v a=>some (.v a)
 | .sl sz xs=>some (.sl sz xs)
 | .dI cs j=>some (.dI cs j)
def jQ (h:List (Nat×Ob)) (S inv:List (Nat×Nat)):List AV->Option (List AV)
 |[]=>some []
 |c::cs=>match tr h S inv c with
  |some y=>match jQ h S inv cs with
   |some ys=>some (y::ys)
   |none=>none
  |none=>none
end
theorem ZB {S:List Nat} {b:Nat} (h:S.contains b=false):b ∉ S:=by
 intro hm
 rw [List.contains_iff_mem.2 hm] at h
 cases h
mutual
theorem Df {h:List (Nat×Ob)} {S inv:List (Nat×Nat)}:∀ (x y:AV),tr h S inv x=some y->rv h S [] y x
 | .own b sz off len,y,e=>by
  simp only [tr] at e
  split at e
  ·rename_i k hk
   cases hs:rZ S k b with
   |false=>rw [hs] at e;cases e
   |true=>rw [hs] at e;simp only [cond_true,Option.some.injEq] at e;subst e;simp only [rv,LM hs,and_self]
  ·cases hc:(S.map Prod.snd).contains b with
   |true=>rw [hc] at e;cases e
   |false=>
    rw [hc] at e
    simp only [cond_false] at e
    split at e
    ·rename_i x1 dR xs hg
     split at e
     ·rename_i h1
      simp only [Option.some.injEq] at e
      subst e
      simp only [rv,hg]
      simp only [h1.1,h1.2,and_true,true_and]
      exact ZB hc
     ·cases e
    ·cases e
 | .rp b sz i j,y,e=>by
  simp only [tr] at e
  split at e
  ·rename_i k hk
   cases hs:rZ S k b with
   |false=>rw [hs] at e;cases e
   |true=>rw [hs] at e;simp only [cond_true,Option.some.injEq] at e;subst e;simp only [rv,LM hs,and_self]
  ·cases hc:(S.map Prod.snd).contains b with
   |true=>rw [hc] at e;cases e
   |false=>
    rw [hc] at e
    simp only [cond_false] at e
    split at e
    ·rename_i x1 dR xs hg
     split at e
     ·rename_i h1
      simp only [Option.some.injEq] at e
      subst e
      simp only [rv,hg]
      simp only [h1.1,h1.2,and_true,true_and]
      exact ZB hc
     ·cases e
    ·cases e
 | .ptr b j,y,e=>by
  simp only [tr] at e
  split at e
  ·rename_i k hk
   cases hs:rZ S k b with
   |false=>rw [hs] at e;cases e
   |true=>rw [hs] at e;simp only [cond_true,Option.some.injEq] at e;subst e;simp only [rv,LM hs,and_self]
  ·cases e
 | .mp b,y,e=>by
  simp only [tr] at e
  split at e
  ·rename_i k hk
   cases hs:rZ S k b with
   |false=>rw [hs] at e;cases e
   |true=>rw [hs] at e;simp only [cond_true,Option.some.injEq] at e;subst e;simp only [rv,LM hs]
  ·cases e
 | .agg cs,y,e=>by
  simp only [tr] at e
  split at e
  ·rename_i ys hy;cases e;simp only [rv];exact pQ cs ys hy
  ·cases e
 | .aG cs,y,e=>by
  simp only [tr] at e
  split at e
  ·rename_i ys hy;cases e;simp only [rv];exact pQ cs ys hy
  ·cases e
 | .fn f cs,y,e=>by
  simp only [tr] at e
  split at e
  ·rename_i ys hy;cases e;simp only [rv,true_and];exact pQ cs ys hy
  ·cases e
 | .v a,y,e=>by simp only [tr,Option.some.injEq] at e;subst e;simp only [rv]
 | .sl sz xs,y,e=>by simp only [tr,Option.some.injEq] at e;subst e;simp only [rv,and_self]
 | .dI cs j,y,e=>by simp only [tr,Option.some.injEq] at e;subst e;simp only [rv,and_self]
theorem pQ {h:List (Nat×Ob)} {S inv:List (Nat×Nat)}:∀ (xs ys:List AV),jQ h S inv xs=some ys->au h S [] ys xs
 |[],ys,e=>by simp only [jQ,Option.some.injEq] at e;subst e;simp only [au]
 |c::cs,ys,e=>by
  simp only [jQ] at e
  split at e
  ·rename_i y hy
   split at e
   ·rename_i ys' hys
    cases e
    simp only [au]
    exact ⟨Df c y hy,pQ cs ys' hys⟩
   ·cases e
  ·cases e
end
mutual
theorem ail {h:List (Nat×Ob)} {S inv:List (Nat×Nat)}:∀ (x:AV),x.pure=true->tr h S inv x=some x
 | .v a,_=>by simp only [tr]
 | .sl sz xs,_=>by simp only [tr]
 | .dI cs j,_=>by simp only [tr]
 | .agg cs,hx=>by simp only [tr,LP cs (by simpa only [AV.pure] using hx)]
 | .aG cs,hx=>by simp only [tr,LP cs (by simpa only [AV.pure] using hx)]
 | .fn f cs,hx=>by simp only [tr,LP cs (by simpa only [AV.pure] using hx)]
 | .own ..,hx=>by simp [AV.pure] at hx
 | .ptr ..,hx=>by simp [AV.pure] at hx
 | .rp ..,hx=>by simp [AV.pure] at hx
 | .mp ..,hx=>by simp [AV.pure] at hx
theorem LP {h:List (Nat×Ob)} {S inv:List (Nat×Nat)}:∀ (xs:List AV),dA xs=true->jQ h S inv xs=some xs
 |[],_=>by simp only [jQ]
 |c::cs,hx=>by
  simp only [dA,Bool.and_eq_true] at hx
  simp only [jQ,ail c hx.1,LP cs hx.2]
end
def EU (h:List (Nat×Ob)) (S inv:List (Nat×Nat)):List (Value×AV)->Option (List (Value×AV))
 |[]=>some []
 |(k,x)::l=>match tr h S inv x with
  |some y=>match EU h S inv l with
   |some l'=>some ((k,y)::l')
   |none=>none
  |none=>none
theorem ZC {h:List (Nat×Ob)} {S inv:List (Nat×Nat)}:∀ (xs ys:List (Value×AV)),EU h S inv xs=some ys->nR h S [] ys xs
 |[],ys,e=>by simp only [EU,Option.some.injEq] at e;subst e;simp only [nR]
 |(k,x)::l,ys,e=>by
  simp only [EU] at e
  split at e
  ·rename_i y hy
   split at e
   ·rename_i l' hl
    cases e
    simp only [nR,true_and]
    exact ⟨Df x y hy,ZC l l' hl⟩
   ·cases e
  ·cases e
def Py (h:List (Nat×Ob)) (S inv:List (Nat×Nat)):Ob->Option Ob
 | .box cs=>match jQ h S inv cs with
  |some ys=>some (.box ys)
  |none=>none
 | .row e sz xs=>some (.row e sz xs)
 | .map es=>match EU h S inv es with
  |some ys=>some (.map ys)
  |none=>none
 | .dead=>none
theorem aim {h:List (Nat×Ob)} {S inv:List (Nat×Nat)} {x y:Ob} (e:Py h S inv x=some y):bK h S [] y x:=by
 unfold Py at e
 split at e
 ·split at e
  ·rename_i ys hy;cases e;simp only [bK];exact pQ _ _ hy
  ·cases e
 ·cases e;simp only [bK,and_self]
 ·split at e
  ·rename_i ys hy;cases e;simp only [bK];exact ZC _ _ hy
  ·cases e
 ·cases e
theorem Pz {h h':List (Nat×Ob)} {S:List (Nat×Nat)} {N:List Nat}:∀ (l:List (Nat×Nat)),(∀ k b,(k,b) ∈ l->∃ y x,get h' k=some y/\get h b=some x/\bK h S N y x)->cO h S N h' l
 |[],_=>by simp only [cO]
 |(k,b)::l,hh=>by
  obtain ⟨y,x,h1,h2,h3⟩:=hh k b (List.mem_cons_self ..)
  simp only [cO,h1,h2]
  exact ⟨h3,Pz l fun k b hm=>hh k b (List.mem_cons_of_mem _ hm)⟩
def uo:List Nat->Nat->List (Nat×Nat)
 |[],_=>[]
 |b::O,k=>(k,b)::uo O (k+1)
theorem ZE:∀ (O:List Nat) (k:Nat) (n b:Nat),(n,b) ∈ uo O k->∃ i,n=k+i/\O[i]? =some b
 |[],k,n,b,h=>by simp [uo] at h
 |a::O,k,n,b,h=>by
  simp only [uo,List.mem_cons,Prod.mk.injEq] at h
  rcases h with ⟨rfl,rfl⟩|h
  ·exact ⟨0,rfl,rfl⟩
  ·obtain ⟨i,h1,h2⟩:=ZE O (k+1) n b h
   exact ⟨i+1,by omega,by simpa using h2⟩
def exV:List Nat->Nat->List (Nat×Nat)
 |[],_=>[]
 |b::O,k=>(b,k)::exV O (k+1)
def lX (S:List Nat):List (Nat×Nat):=S.map fun b=>(b,b)
def EW (h:List (Nat×Ob)) (S inv:List (Nat×Nat)):Nat->Nat->Option (List (List AV))
 |_,0=>some []
 |i,m+1=>match get h i with
  |some (.box cs)=>match jQ h S inv cs with
   |some ys=>match EW h S inv (i+1) m with
    |some l=>some (ys::l)
    |none=>none
   |none=>none
  |_=>none
theorem ZF {h:List (Nat×Ob)} {S inv:List (Nat×Nat)}:∀ (m i:Nat) (l:List (List AV)),EW h S inv i m=some l->l.length=m/\∀ k,k<m->∃ cs ys,get h (i+k)=some (.box cs)/\l[k]? =some ys/\jQ h S inv cs=some ys
 |0,i,l,e=>by simp only [EW,Option.some.injEq] at e;subst e;exact ⟨rfl,fun k hk=>absurd hk (by omega)⟩
 |m+1,i,l,e=>by
  simp only [EW] at e
  split at e
  ·rename_i cs hg
   split at e
   ·rename_i ys hy
    split at e
    ·rename_i l' hl
     cases e
     obtain ⟨h1,h2⟩:=ZF m (i+1) l' hl
     refine ⟨by simp [h1],fun k hk=> ?_⟩
     cases k with
     |zero=>exact ⟨cs,ys,hg,rfl,hy⟩
     |succ k=>
      obtain ⟨cs',ys',h3,h4,h5⟩:=h2 k (by omega)
      exact ⟨cs',ys',by rw [show i+(k+1)=i+1+k by omega];exact h3,by simpa using h4,h5⟩
    ·cases e
   ·cases e
  ·cases e
def xX (h:List (Nat×Ob)):List Nat->Option (List Ob)
 |[]=>some []
 |b::O=>match get h b with
  |some (.row e sz xs)=>match xX h O with
   |some l=>some (.row e sz xs::l)
   |none=>none
  |some (.box cs)=>bif dA cs then match xX h O with
   |some l=>some (.box cs::l)
   |none=>none else none
  |_=>none
theorem PD {h:List (Nat×Ob)}:∀ (O:List Nat) (l:List Ob),xX h O=some l->l.length=O.length/\∀ (i b:Nat),O[i]? =some b->∃ o,l[i]? =some o/\get h b=some o/\rowOk o=true
 |[],l,e=>by simp only [xX,Option.some.injEq] at e;subst e;exact ⟨rfl,fun i b h=>by simp at h⟩
 |a::O,l,e=>by
  simp only [xX] at e
  split at e
  ·rename_i e1 sz xs hg
   split at e
   ·rename_i l' hl
    cases e
    obtain ⟨h1,h2⟩:=PD O l' hl
    refine ⟨by simp [h1],fun i b hi=> ?_⟩
    cases i with
    |zero=>simp at hi;subst hi;exact ⟨_,rfl,hg,rfl⟩
    |succ i=>simpa using h2 i b (by simpa using hi)
   ·cases e
  ·rename_i cs hg
   cases hp:dA cs with
   |false=>rw [hp] at e;cases e
   |true=>
    rw [hp] at e
    simp only [cond_true] at e
    split at e
    ·rename_i l' hl
     cases e
     obtain ⟨h1,h2⟩:=PD O l' hl
     refine ⟨by simp [h1],fun i b hi=> ?_⟩
     cases i with
     |zero=>simp at hi;subst hi;exact ⟨_,rfl,hg,hp⟩
     |succ i=>simpa using h2 i b (by simpa using hi)
    ·cases e
  ·cases e
def mU (m:Nat) (O:List Nat) (vs:List AV) (h:List (Nat×Ob)):Option (AV×List (List AV)×List Ob):=
 match tr h (lX (List.range m)++uo O 4) (lX (List.range m)++exV O 4) (ay vs) with
 |some r=>match EW h (lX (List.range m)++uo O 4) (lX (List.range m)++exV O 4) 0 m with
  |some bs=>match xX h O with
   |some es=>bif decide (m<=4)&&iD h (lX (List.range m)++uo O 4) [] (outs bs es) then some (r,bs,es) else none
   |none=>none
  |none=>none
 |none=>none
theorem Dh {m:Nat} {O:List Nat} {vs:List AV} {t:List (Nat×AV)} {h:List (Nat×Ob)} {res:List iE} {r:AV} {bs:List (List AV)} {es:List Ob} (hv:iZ t h res=some vs) (e:mU m O vs h=some (r,bs,es)):
 Fin res r bs es t h/\bs.length=m/\es.all rowOk=true:=by
 simp only [mU] at e
 split at e
 ·rename_i r' hr
  split at e
  ·rename_i bs' hb
   split at e
   ·rename_i es' he
    cases ho:(decide (m<=4)&&iD h (lX (List.range m)++uo O 4) [] (outs bs' es')) with
    |false=>rw [ho] at e;cases e
    |true=>
     rw [ho] at e
     simp only [cond_true,Option.some.injEq,Prod.mk.injEq] at e
     obtain ⟨rfl,rfl,rfl⟩:=e
     simp only [Bool.and_eq_true,decide_eq_true_eq] at ho
     obtain ⟨hm,ho⟩:=ho
     obtain ⟨hl,hg⟩:=ZF _ _ _ hb
     obtain ⟨hl',hg'⟩:=PD _ _ he
     refine ⟨⟨_,[],vs,hv,ho,Pz _ fun k b hmem=> ?_,by simp only [gY],Df _ _ hr⟩,hl,?_⟩
     ·rcases List.mem_append.1 hmem with hmem|hmem
      ·simp only [lX,List.mem_map,List.mem_range,Prod.mk.injEq] at hmem
       obtain ⟨i,hi,rfl,rfl⟩:=hmem
       obtain ⟨cs,ys,h1,h2,h3⟩:=hg i hi
       rw [Nat.zero_add] at h1
       exact ⟨.box ys,.box cs,CU h2,h1,pQ _ _ h3⟩
      ·obtain ⟨i,rfl,hi⟩:=ZE _ _ _ _ hmem
       obtain ⟨o,h1,h2,h3⟩:=hg' i b hi
       refine ⟨o,o,Lg (by omega) h1,h2,?_⟩
       cases o with
       |row e sz xs=>simp only [bK,and_self]
       |box cs=>simp only [bK];exact vM cs h3
       |map es=>simp [rowOk] at h3
       |dead=>simp [rowOk] at h3
     ·rw [List.all_eq_true]
      intro o ho'
      obtain ⟨i,hi⟩:=List.mem_iff_getElem?.1 ho'
      have hlt:=(List.getElem?_eq_some_iff.1 hi).1
      obtain ⟨o',h1,_,h3⟩:=hg' i _ (List.getElem?_eq_getElem (show i<O.length by omega))
      rw [hi] at h1
      cases h1
      exact h3
   ·cases e
  ·cases e
 ·cases e
def qI {α:Type}:List (Nat×α)->List Nat->List (Nat×α)
 |[],_=>[]
 |(k,x)::l,seen=>bif seen.contains k then qI l seen else (k,x)::qI l (k::seen)
theorem PE {α:Type}:∀ (l:List (Nat×α)) (seen:List Nat) (k:Nat) (x:α),(k,x) ∈ qI l seen->get l k=some x/\seen.contains k=false
 |[],seen,k,x,h=>by simp [qI] at h
 |(a,y)::l,seen,k,x,h=>by
  simp only [qI] at h
  cases hc:seen.contains a with
  |true=>
   rw [hc] at h
   simp only [cond_true] at h
   obtain ⟨h1,h2⟩:=PE l seen k x h
   have:a≠k:=by intro e;subst e;rw [hc] at h2;cases h2
   exact ⟨by rw [ji _ _ _ _ this];exact h1,h2⟩
  |false=>
   rw [hc] at h
   simp only [cond_false,List.mem_cons,Prod.mk.injEq] at h
   rcases h with ⟨rfl,rfl⟩|h
   ·exact ⟨nH _ _ _,hc⟩
   ·obtain ⟨h1,h2⟩:=PE l (a::seen) k x h
    simp only [List.contains_cons,Bool.or_eq_false_iff,beq_eq_false_iff_ne,ne_eq] at h2
    exact ⟨by rw [ji _ _ _ _ (fun e=>h2.1 e.symm)];exact h1,h2.2⟩
def vT (Z:List Nat):List (Nat×Ob)->List Nat
 |[]=>[]
 |(_,.dead)::l=>vT Z l
 |(k,_)::l=>bif Z.contains k then vT Z l else k::vT Z l
def LQ (h:List (Nat×Ob)) (S:List (Nat×Nat)):List Nat->Option (List (Nat×Ob))
 |[]=>some []
 |b::l=>match get h b with
  |some o=>match Py h S S o with
   |some y=>match LQ h S l with
    |some h'=>some ((b,y)::h')
    |none=>none
   |none=>none
  |none=>none
theorem ZG {h:List (Nat×Ob)} {S:List (Nat×Nat)}:∀ (L:List Nat) (h':List (Nat×Ob)),LQ h S L=some h'->∀ b ∈ L,∃ y x,get h' b=some y/\get h b=some x/\bK h S [] y x
 |[],h',e,b,hb=>by simp at hb
 |a::l,h',e,b,hb=>by
  simp only [LQ] at e
  split at e
  ·rename_i x hg
   split at e
   ·rename_i y hy
    split at e
    ·rename_i h0 hl
     cases e
     by_cases hab:a=b
     ·subst hab;exact ⟨y,x,nH _ _ _,hg,aim hy⟩
     ·have hb':b ∈ l:=by
       rcases List.mem_cons.1 hb with h|h
       ·exact absurd h.symm hab
       ·exact h
      obtain ⟨y',x',h1,h2,h3⟩:=ZG l h0 hl b hb'
      exact ⟨y',x',by rw [ji _ _ _ _ hab];exact h1,h2,h3⟩
    ·cases e
   ·cases e
  ·cases e
def Di (h:List (Nat×Ob)) (S:List (Nat×Nat)):List (Nat×AV)->List (Nat×AV)
 |[]=>[]
 |(k,x)::l=>match tr h S S x with
  |some y=>(k,y)::Di h S l
  |none=>Di h S l
theorem PG {h:List (Nat×Ob)} {S:List (Nat×Nat)} {t:List (Nat×AV)}:∀ (l:List (Nat×AV)),(∀ k x,(k,x) ∈ l->get t k=some x)->d9 h S [] t (Di h S l)
 |[],_=>by simp only [Di,d9]
 |(k,x)::l,hh=>by
  simp only [Di]
  split
  ·rename_i y hy
   simp only [d9,hh k x (List.mem_cons_self ..)]
   exact ⟨Df _ _ hy,PG l fun k x hm=>hh k x (List.mem_cons_of_mem _ hm)⟩
  ·exact PG l fun k x hm=>hh k x (List.mem_cons_of_mem _ hm)
def Dj (Z:List Nat) (t:List (Nat×AV)) (h:List (Nat×Ob)):Option (List (Nat×AV)×List (Nat×Ob)):=
 match LQ h (lX (vT Z (qI h []))) (vT Z (qI h [])) with
 |some h'=>bif iD h (lX (vT Z (qI h []))) [] h' then some (Di h (lX (vT Z (qI h []))) (qI t []),h') else none
 |none=>none
theorem ZH {Z:List Nat} {t t':List (Nat×AV)} {h h':List (Nat×Ob)} (e:Dj Z t h=some (t',h')):Eh t h t' h':=by
 simp only [Dj] at e
 generalize vT Z (qI h [])=S at e
 split at e
 ·rename_i h0 hh
  cases ho:iD h (lX S) [] h0 with
  |false=>rw [ho] at e;cases e
  |true=>
   rw [ho] at e
   simp only [cond_true,Option.some.injEq,Prod.mk.injEq] at e
   obtain ⟨rfl,rfl⟩:=e
   refine Eh.mk (lX S) (by simp [lX]) ho (Pz _ fun k b hm=> ?_) (PG _ fun k x hm=>(PE _ _ _ _ hm).1)
   simp only [lX,List.mem_map,Prod.mk.injEq] at hm
   obtain ⟨i,hi,rfl,rfl⟩:=hm
   exact ZG _ _ hh i hi
 ·cases e
theorem ZI {Z:List Nat} {n:Nat} {t t':List (Nat×AV)} {h h':List (Nat×Ob)} (e:Dj Z t h=some (t',h')):Wk ⟨n,t,h⟩ ⟨n,t',h'⟩:=by
 intro C ρ U a w hR hU
 obtain ⟨ρ',U',h1,h2⟩:=ZH e C ρ U a w ⟨hR.hr,hR.defers,hR.sz,hR.tm⟩
 exact ⟨ρ',U',⟨h1.hr,h1.defers,h1.sz,h1.tm⟩,fun b hb=>hU b (h2 b hb)⟩
abbrev RunT:=FuncId->List AV->List (List AV)->List Ob->Option (List AV×List (Nat×Ob))
def gF (P:Program) (run:RunT):Prop:=∀ f xs bs gs vs h,run f xs bs gs=some (vs,h)->∃ t res,iZ t h res=some vs/\∀ r bs' es,Fin res r bs' es t h->fP P f xs bs gs r bs' es
theorem fP.EX {P:Program} {f:FuncId} {xs:List AV} {bs bs':List (List AV)} {r:AV} {es:List Ob} (hF:fP P f xs bs [] r bs' es):Fn P f xs bs r bs' es:=
 ⟨hF.1,fun C ρ U w vals hr hU hv=>hF.2 C ρ U w vals (by simpa [outs,dB] using hr) (fun b hb=>by have:=hU b hb;omega) hv⟩
def PI (h:List (Nat×Ob)) (L:List Nat):List Nat:=L.filter fun b=>match get h b with
 |some (.box _)=>true
 |_=>false
def LU (h:List (Nat×Ob)) (L:List Nat):List Nat:=L.filter fun b=>match get h b with
 |some (.row _ _ _)=>true
 |_=>false
def cont (h:List (Nat×Ob)) (B:List Nat):List Nat:=B.flatMap fun b=>match get h b with
 |some (.box cs)=>dF cs
 |_=>[]
def ain (h:List (Nat×Ob)) (ys:List AV):List Nat:=
 let B:=(PI h (dF ys)).eraseDups
 match B with
 |[]=>[]
 |B=>let B:=(B++PI h (cont h B)).eraseDups
  (B++PI h (cont h B)).eraseDups
def qJ:List AV->List Nat
 |[]=>[]
 | .own b _ _ _::l=>b::qJ l
 |_::l=>qJ l
def ol (m:Nat):List AV->List Nat
 |[]=>[]
 | .own b _ _ _::l=>b::ol m l
 | .ptr b _::l=>bif Nat.blt b m then ol m l else b::ol m l
 | .agg cs::l=>bif Nat.blt 2 cs.length then qJ cs++ol m l else ol m l
 |_::l=>ol m l
def vU:Ob->Bool
 | .row _ _ xs=>xs.all jP
 | .box cs=>jP cs
 |_=>false
theorem PK:∀ (cs:List AV),jP cs=true->∀ c ∈ cs,na c=true
 |[],_,c,h=>by simp at h
 |x::cs,hh,c,h=>by
  simp only [jP,Bool.and_eq_true] at hh
  rcases List.mem_cons.1 h with rfl|h
  ·exact hh.1
  ·exact PK cs hh.2 c h
theorem ZJ {o:Ob} (h:vU o=true):lW o:=by
 cases o with
 |row e sz xs=>
  simp only [vU,List.all_eq_true] at h
  exact fun x hx c hc=>PK x (h x hx) c hc
 |box cs=>exact PK cs h
 |map es=>simp [vU] at h
 |dead=>simp [vU] at h
def xY (Bx:List (Nat×List AV)):List (Nat×Ob):=Bx.map fun p=>(p.1,Ob.box p.2)
section
variable {C:Ctx} {ρ:Nat->Loc} {U:Nat->Prop} {h:List (Nat×Ob)} {w:World}
theorem ZK (hr:HR C ρ U h w) (Z:List Nat):dK ρ (stay h Z) []=fI ρ Z:=by
 funext k
 simp only [dK,CX,fI]
 by_cases hkz:k ∈ Z
 ·simp [hkz]
 ·by_cases hkh:k ∈ h.map Prod.fst
  ·rw [if_pos ⟨hkh,hkz⟩,if_neg hkz]
  ·rw [if_neg (fun h=>hkh h.1),if_neg hkz]
   have:get h k=none:=by
    cases hg:get h k with
    |none=>rfl
    |some o=>exact absurd (List.mem_map.2 ⟨_,get_mem hg,rfl⟩) hkh
   rw [hr.hd k this];simp
theorem ZL (hr:HR C ρ U h w) (Z:List Nat):∀ k,jy (stay h Z) [] k->U k:=by
 intro k hk
 rcases hk with hk|hk
 ·obtain ⟨c,hc⟩:=vI hk
  rw [CX] at hc
  split at hc
  ·rename_i h1
   obtain ⟨o,ho⟩:=vI h1.1
   exact (hr.hp k o ho).1
  ·cases hc
 ·simp at hk
theorem HR.ZM (hr:HR C ρ U h w) (Z:List Nat):∀ (Bx:List (Nat×List AV)) (U1:Nat->Prop) (h1:List (Nat×Ob)),(∀ p ∈ Bx,p.1 ∉ Z/\∃ cs,get h p.1=some (.box cs)/\au h (stay h Z) [] p.2 cs)->
 (∀ k,U1 k->U k)->(∀ k,U k->U1 k)->HR C (fI ρ Z) U1 h1 w->∃ U2,(∀ k,U2 k->U k)/\(∀ k,U k->U2 k)/\HR C (fI ρ Z) U2 (xY Bx++h1) w
 |[],U1,h1,_,vN,vO,hr1=>⟨U1,vN,vO,hr1⟩
 |(b,ds)::Bx,U1,h1,hB,vN,vO,hr1=>by
  obtain ⟨U2,hu1,hu2,hr2⟩:=HR.ZM hr Z Bx U1 h1 (fun p hp=>hB p (List.mem_cons_of_mem _ hp)) vN vO hr1
  obtain ⟨ZN,cs,hg,hv⟩:=hB (b,ds) (List.mem_cons_self ..)
  simp only at ZN hg hv
  obtain ⟨hub,g,o,n,e,cells,h1',h2',h3',h4',h5'⟩:=hr.hp b _ hg
  have hkl:fI ρ Z b=ρ b:=by unfold fI;rw [if_neg ZN]
  have hm:Moved C (fI ρ Z) U2 (xY Bx++h1) w b (fI ρ Z b) w:=⟨rfl,rfl,rfl,Nat.le_refl _,fun _ _ _=>rfl,.inl ⟨hu2 _ hub,rfl⟩⟩
  have hup:up (fI ρ Z) b (fI ρ Z b)=fI ρ Z:=by
   funext k
   unfold up
   by_cases e:k=b
   ·rw [if_pos e,e]
   ·rw [if_neg e]
  have hl:=iX _ _ hv
  have:=hm.hr hr2 (ob:= .box ds) (fun _=>⟨ds,rfl⟩) (by
   rw [hup,hkl]
   refine ⟨g,o,n,e,cells,h1',h2',h3',by omega,fun j c hj=> ?_⟩
   obtain ⟨x,hx,hxv⟩:=iY _ _ hv j c hj
   obtain ⟨u,hu,huv⟩:=h5' j x hx
   have:=kS hr huv c hxv
   rw [ZK hr Z] at this
   exact ⟨u,hu,this.mono (fun _ h=>h) (fun _ _=>rfl) (fun k hk=> .inl (hu2 _ (ZL hr Z k hk))) (fun _ _=> .inl rfl)⟩)
  rw [hup] at this
  refine ⟨ig U2 b,fun k hk=> ?_,fun k hk=> .inl (hu2 k hk),this⟩
  rcases hk with hk|rfl
  ·exact hu1 k hk
  ·exact hub
theorem aio {P:Program} {nm:Nat} {f:FuncId} {args args':List AV} {Q:AV->List (Nat×Ob)->Prop} (Z:List Nat) (Bx:List (Nat×List AV))
 (hz:∀ b ∈ Z,∃ e sz xs,get h b=some (.row e sz xs)) (hB:∀ p ∈ Bx,p.1 ∉ Z/\∃ cs,get h p.1=some (.box cs)/\au h (stay h Z) [] p.2 cs)
 (ha:au h (stay h Z) [] args' args) (hk:rR P nm f args' (xY Bx++(kills Z++h)) Q):rR P nm f args h Q:=by
 refine ⟨hk.1,fun C ρ U w vals hr hU hv=> ?_⟩
 obtain ⟨U0,vN,vO,hr0⟩:=hr.kills Z hz
 obtain ⟨U',hV1,hV2,hr'⟩:=HR.ZM hr Z Bx U0 _ hB vN vO hr0
 have pG:Later U ρ (fI ρ Z):=fun b _=>by
  unfold fI
  by_cases e:b ∈ Z
  ·rw [if_pos e];exact .inr rfl
  ·rw [if_neg e];exact .inl rfl
 have Pk:∀ g,aP C ρ w g->aP C (fI ρ Z) w g:=fun g hg=>⟨hg.1,hg.2.1,fun ⟨b,o,n,hb⟩=>by
  unfold fI at hb
  split at hb
  ·cases hb
  ·exact hg.2.2 ⟨b,o,n,hb⟩⟩
 have hl:=iX _ _ ha
 have hv':VL w (aP C (fI ρ Z) w) (fI ρ Z) U' args' vals:=by
  refine ⟨by rw [hl];exact hv.1,fun i x u hi hu=> ?_⟩
  obtain ⟨y,hy,hxy⟩:=iY _ _ ha i x hi
  have:=kS hr (hv.2 i y u hy hu) x hxy
  rw [ZK hr Z] at this
  exact this.mono (fun _ h=>h) (fun _ _=>rfl) (fun k hk=>hV2 k (ZL hr Z k hk)) (fun _ _=> .inl rfl)
 refine (hk.2 C (fI ρ Z) U' w vals hr' (fun b hb=>hU b (hV1 b hb)) hv').mono fun e w' hpost=> ?_
 obtain ⟨v,r,h',ρ',xI,rfl,h1,h2,h3,h4,h5⟩:=hpost
 exact ⟨v,r,h',ρ',xI,rfl,h1,h2,fun x u hx=>h3 x u (hx.mono Pk (fun _ _=>rfl) hV2 pG),fun b hb=>(h4 b hb).imp (hV1 b) id,h5⟩
end
theorem LV {h:List (Nat×Ob)} {Z:List Nat} {k b:Nat} (e:get (stay h Z) k=some b):k=b/\k ∉ Z/\∃ o,get h k=some o:=by
 rw [CX] at e
 split at e
 ·rename_i h1
  cases e
  exact ⟨rfl,h1.2,vI h1.1⟩
 ·cases e
theorem EY {h:List (Nat×Ob)} {Z:List Nat} {k:Nat} {o:Ob} (e:get h k=some o) (hz:k ∉ Z):get (stay h Z) k=some k:=by
 rw [CX,if_pos ⟨List.mem_map.2 ⟨_,get_mem e,rfl⟩,hz⟩]
theorem ZO {h:List (Nat×Ob)} {Z:List Nat} {b:Nat}:b ∈ (stay h Z).map Prod.snd->b ∉ Z:=by
 intro hm
 simp only [stay,List.map_map,List.mem_map,List.mem_filter,Function.comp] at hm
 obtain ⟨a,⟨_,h2⟩,rfl⟩:=hm
 simpa using h2
theorem ZP {h:List (Nat×Ob)} {Z:List Nat} {b:Nat} {o:Ob} (e:get h b=some o) (hn:b ∉ (stay h Z).map Prod.snd):b ∈ Z:=by
 apply Classical.byContradiction
 intro hz
 refine hn ?_
 have:=get_mem (EY e hz)
 exact List.mem_map.2 ⟨_,this,rfl⟩
mutual
theorem aip {h h':List (Nat×Ob)} {Z:List Nat}:∀ (y x:AV),(∀ b ∈ deep x,get h' b=get h b)->rv h (stay h Z) [] y x->rv h' (stay h' Z) [] y x
 | .own k sz off len,x,hh,hx=>by
  cases x<;>simp only [rv] at hx ⊢
  ·split at hx
   ·rename_i heq;cases heq
   ·rename_i heq;cases heq;exact absurd hx.1 (by simp)
   ·exact hx.elim
  ·rename_i b sz' off' len'
   obtain ⟨h1,h2⟩:=hx
   obtain ⟨rfl,h3,o,h4⟩:=LV h1
   exact ⟨EY (by rw [hh _ (by simp [deep])];exact h4) h3,h2⟩
 | .ptr k j,x,hh,hx=>by
  cases x<;>simp only [rv] at hx ⊢
  obtain ⟨h1,h2⟩:=hx
  obtain ⟨rfl,h3,o,h4⟩:=LV h1
  exact ⟨EY (by rw [hh _ (by simp [deep])];exact h4) h3,h2⟩
 | .rp k sz i j,x,hh,hx=>by
  cases x<;>simp only [rv] at hx ⊢
  obtain ⟨h1,h2⟩:=hx
  obtain ⟨rfl,h3,o,h4⟩:=LV h1
  exact ⟨EY (by rw [hh _ (by simp [deep])];exact h4) h3,h2⟩
 | .mp k,x,hh,hx=>by
  cases x<;>simp only [rv] at hx ⊢
  obtain ⟨rfl,h3,o,h4⟩:=LV hx
  exact EY (by rw [hh _ (by simp [deep])];exact h4) h3
 | .sl sz ys,x,hh,hx=>by
  cases x<;>simp only [rv] at hx ⊢
  ·split at hx
   ·rename_i heq;cases heq
   ·rename_i heq;cases heq;exact hx
   ·rename_i heq;cases heq
   ·exact hx.elim
  ·exact hx
  ·rename_i b sz' off' len'
   obtain ⟨h1,h2,h3⟩:=hx
   rw [hh b (by simp [deep])]
   refine ⟨fun hm=> ?_,h2,h3⟩
   split at h3
   ·rename_i e sz2 xs hg;exact ZO hm (ZP hg h1)
   ·exact h3
 | .dI cs j,x,hh,hx=>by
  cases x<;>simp only [rv] at hx ⊢
  ·rename_i b sz' i' j'
   obtain ⟨h1,h2,h3⟩:=hx
   rw [hh b (by simp [deep])]
   refine ⟨fun hm=> ?_,h2,h3⟩
   split at h3
   ·rename_i e sz2 xs hg;exact ZO hm (ZP hg h1)
   ·exact h3
  ·exact hx
 | .agg ys,x,hh,hx=>by
  cases x<;>simp only [rv] at hx ⊢
  exact Dk ys _ (by simpa only [deep] using hh) hx
 | .aG ys,x,hh,hx=>by
  cases x<;>simp only [rv] at hx ⊢
  exact Dk ys _ (by simpa only [deep] using hh) hx
 | .fn f ys,x,hh,hx=>by
  cases x<;>simp only [rv] at hx ⊢
  exact ⟨hx.1,Dk ys _ (by simpa only [deep] using hh) hx.2⟩
 | .v a,x,hh,hx=>by simp only [rv] at hx ⊢;exact hx
theorem Dk {h h':List (Nat×Ob)} {Z:List Nat}:∀ (ys xs:List AV),(∀ b ∈ dF xs,get h' b=get h b)->au h (stay h Z) [] ys xs->au h' (stay h' Z) [] ys xs
 |[],[],_,_=>by simp only [au]
 |y::ys,x::xs,hh,hx=>by
  simp only [au] at hx ⊢
  simp only [dF,List.mem_append] at hh
  exact ⟨aip y x (fun b hb=>hh b (.inl hb)) hx.1,Dk ys xs (fun b hb=>hh b (.inr hb)) hx.2⟩
 |[],_::_,_,hx=>by simp [au] at hx
 |_::_,[],_,hx=>by simp [au] at hx
end
def EZ (h:List (Nat×Ob)) (S:List (Nat×Nat)):List Nat->Option (List (Nat×List AV))
 |[]=>some []
 |b::B=>match get h b with
  |some (.box cs)=>match jQ h S S cs with
   |some ds=>match EZ h S B with
    |some l=>some ((b,ds)::l)
    |none=>none
   |none=>none
  |_=>none
theorem ZQ {h:List (Nat×Ob)} {S:List (Nat×Nat)}:∀ (B:List Nat) (Bx:List (Nat×List AV)),EZ h S B=some Bx->∀ p ∈ Bx,p.1 ∈ B/\∃ cs,get h p.1=some (.box cs)/\au h S [] p.2 cs
 |[],Bx,e,p,hp=>by simp only [EZ,Option.some.injEq] at e;subst e;simp at hp
 |b::B,Bx,e,p,hp=>by
  simp only [EZ] at e
  split at e
  ·rename_i cs hg
   split at e
   ·rename_i ds hd
    split at e
    ·rename_i l hl
     cases e
     rcases List.mem_cons.1 hp with rfl|hp
     ·exact ⟨List.mem_cons_self ..,cs,hg,pQ _ _ hd⟩
     ·obtain ⟨h1,h2⟩:=ZQ B l hl p hp
      exact ⟨List.mem_cons_of_mem _ h1,h2⟩
    ·cases e
   ·cases e
  ·cases e
def E5 (h:List (Nat×Ob)) (S inv:List (Nat×Nat)):List Nat->Option (List (List AV))
 |[]=>some []
 |b::B=>match get h b with
  |some (.box cs)=>match jQ [] S inv cs with
   |some ds=>match E5 h S inv B with
    |some l=>some (ds::l)
    |none=>none
   |none=>none
  |_=>none
theorem ZR {h:List (Nat×Ob)} {S inv:List (Nat×Nat)}:∀ (B:List Nat) (bs:List (List AV)),E5 h S inv B=some bs->gJ h S B bs
 |[],bs,e=>by simp only [E5,Option.some.injEq] at e;subst e;simp only [gJ]
 |b::B,bs,e=>by
  simp only [E5] at e
  split at e
  ·rename_i cs hg
   split at e
   ·rename_i ds hd
    split at e
    ·rename_i l hl
     cases e
     simp only [gJ,hg]
     exact ⟨pQ _ _ hd,ZR B l hl⟩
    ·cases e
   ·cases e
  ·cases e
def E8 (h:List (Nat×Ob)):List Nat->Option (List Ob)
 |[]=>some []
 |b::G=>match get h b with
  |some (.row e sz xs)=>match E8 h G with
   |some l=>some (.row e sz xs::l)
   |none=>none
  |_=>none
theorem ZT {h:List (Nat×Ob)}:∀ (G:List Nat) (gs:List Ob),E8 h G=some gs->gK h G gs
 |[],gs,e=>by simp only [E8,Option.some.injEq] at e;subst e;simp only [gK]
 |b::G,gs,e=>by
  simp only [E8] at e
  split at e
  ·rename_i e1 sz xs hg
   split at e
   ·rename_i l hl
    cases e
    simp only [gK,hg,isRow,and_self,true_and]
    exact ZT G l hl
   ·cases e
  ·cases e
def E9 (S inv:List (Nat×Nat)):List (List AV)->Option (List (List AV))
 |[]=>some []
 |c::l=>match jQ [] S inv c with
  |some c'=>match E9 S inv l with
   |some l'=>some (c'::l')
   |none=>none
  |none=>none
theorem ZU {S inv:List (Nat×Nat)}:∀ (l l':List (List AV)),E9 S inv l=some l'->jb S l' l
 |[],l',e=>by simp only [E9,Option.some.injEq] at e;subst e;simp only [jb]
 |c::l,l',e=>by
  simp only [E9] at e
  split at e
  ·rename_i c' hc
   split at e
   ·rename_i l0 hl
    cases e
    simp only [jb]
    exact ⟨pQ _ _ hc,ZU l l0 hl⟩
   ·cases e
  ·cases e
theorem ZV {S:List (Nat×Nat)}:∀ (es:List Ob),es.all rowOk=true->jc S es es
 |[],_=>by simp only [jc]
 |o::es,h=>by
  simp only [List.all_cons,Bool.and_eq_true] at h
  simp only [jc]
  refine ⟨?_,ZV es h.2⟩
  cases o with
  |row e sz xs=>simp only [bK,and_self]
  |box cs=>simp only [bK];exact vM cs h.1
  |map es=>simp [rowOk] at h
  |dead=>simp [rowOk] at h
def invS (B G:List Nat):List (Nat×Nat):=exV B 0++exV G 4
def ZW (B:List Nat) (nm m:Nat):List (Nat×Nat):=(List.range B.length).map (fun i=>(i,B[i]?.getD 0))++(List.range m).map (fun i=>(4+i,nm+i))
def Fa (tl:List AV->List Nat) (run:RunT) (nm:Nat) (h:List (Nat×Ob)) (f:FuncId) (ys:List AV) (B G Z:List Nat):Option Rec:=
 match jQ h (stay h Z) (stay h Z) ys with
 |some ZX=>
  match EZ h (stay h Z) B with
  |some Bx=>match jQ [] (dU B G) (invS B G) ZX with
   |some xs=>match E5 (xY Bx++(kills Z++h)) (dU B G) (invS B G) B with
    |some bs=>match E8 (xY Bx++(kills Z++h)) G with
     |some gs=>match run f xs bs gs with
      |some (vs,h')=>match mU B.length (tl vs).eraseDups vs h' with
       |some (r,bs',es)=>match tr [] (jo B nm es.length) (ZW B nm es.length) r with
        |some r'=>match E9 (jo B nm es.length) (ZW B nm es.length) bs' with
         |some cs'=>bif (decide (B.length<=4)&&(decide (G.length<=4)&&(decide ((B++G).Nodup)&&(decide (bs'.length=B.length)&&decide (es.length<=8)))))&&(pK h Z&&B.all (fun b=> !Z.contains b)) then
          some ⟨r',(dB nm es++(gu B cs'++kills G))++(xY Bx++kills Z),dF ys++(B++(G++(Z++cont h B)))⟩ else none
         |none=>none
        |none=>none
       |none=>none
      |none=>none
     |none=>none
    |none=>none
   |none=>none
  |none=>none
 |none=>none
theorem air {h h':List (Nat×Ob)} {a c:List (Nat×Ob)} {b:Nat} (e:get h' b=get h b):get (a++(c++h')) b=get (a++(c++h)) b:=by
 simp only [get_append,e]
theorem PL {P:Program} {tl:List AV->List Nat} {run:RunT} (hrun:gF P run) {nm:Nat} {h:List (Nat×Ob)} {f:FuncId} {ys:List AV} {B G Z:List Nat} {r:Rec} (e:Fa tl run nm h f ys B G Z=some r):jK P nm f ys h r:=by
 simp only [Fa] at e
 split at e
 ·rename_i ZX hy
  split at e
  ·rename_i Bx hb
   split at e
   ·rename_i xs hx
    split at e
    ·rename_i bs hbs
     split at e
     ·rename_i gs hgs
      split at e
      ·rename_i vs h1 hr
       split at e
       ·rename_i r0 bs' es hF
        split at e
        ·rename_i r' hr'
         split at e
         ·rename_i cs' hcs
          obtain ⟨t,res,hv,hrun'⟩:=hrun _ _ _ _ _ _ hr
          obtain ⟨xZ,hl,hes⟩:=Dh hv hF
          have hFn:=hrun' _ _ _ xZ
          generalize hd:((decide (B.length<=4)&&(decide (G.length<=4)&&(decide ((B++G).Nodup)&&(decide (bs'.length=B.length)&&decide (es.length<=8)))))&&(pK h Z&&B.all (fun b=> !Z.contains b)))=q at e
          cases q with
          |false=>cases e
          |true=>
           simp only [cond_true,Option.some.injEq] at e
           subst e
           obtain ⟨hd1,ais⟩:=(Bool.and_eq_true _ _).mp hd
           obtain ⟨hd2,hd3⟩:=(Bool.and_eq_true _ _).mp ais
           have hC:=hFn.uf (nm:=nm) (h:=xY Bx++(kills Z++h)) B G r' cs' es (pQ _ _ hx) (ZR _ _ hbs) (ZT _ _ hgs) hd1 (ZU _ _ hcs) (ZV es hes) (Df _ _ hr')
           intro h' hh Q hQ
           have hbz:∀ b ∈ B,b ∉ Z:=fun b hb hz=>by
            have:=List.all_eq_true.1 hd3 b hb
            simp [hz] at this
           refine aio Z Bx (fun b hbz=> ?_) (fun p hp=> ?_) (Dk _ _ (fun b hb=>hh b (by simp [hb])) (pQ _ _ hy)) ?_
           ·obtain ⟨e1,sz,PN,hx1⟩:=LA _ hd2 b hbz
            exact ⟨e1,sz,PN,by rw [hh b (by simp [hbz])];exact hx1⟩
           ·obtain ⟨h2,cs,h3,h4⟩:=ZQ _ _ hb p hp
            refine ⟨hbz _ h2,cs,by rw [hh p.1 (by simp [h2])];exact h3,Dk _ _ (fun b hb=>hh b ?_) h4⟩
            have:b ∈ cont h B:=by
             simp only [cont,List.mem_flatMap]
             exact ⟨p.1,h2,by rw [h3];exact hb⟩
            simp [this]
           ·refine hC _ (fun b hb=>air (hh b ?_)) Q ?_
            ·rcases List.mem_append.1 hb with hb|hb<;>simp [hb]
            ·simpa only [List.append_assoc] using hQ
         ·cases e
        ·cases e
       ·cases e
      ·cases e
     ·cases e
    ·cases e
   ·cases e
  ·cases e
 ·cases e
def mapA (f:AV->Option AV):List AV->Option (List AV)
 |[]=>some []
 |c::cs=>match f c with
  |some d=>match mapA f cs with
   |some ds=>some (d::ds)
   |none=>none
  |none=>none
def uq (h:List (Nat×Ob)):Nat->AV->Option AV
 |0,x=>tr h [] [] x
 |k+1,.ptr b j=>match get h b with
  |some (.box cs)=>match mapA (uq h k) cs with
   |some ds=>bif dA ds then some (.dI ds j) else none
   |none=>none
  |_=>none
 |k+1,.fn f cs=>match mapA (uq h k) cs with
  |some ds=>bif Nat.blt f 2000000 then some (.fn f ds) else none
  |none=>none
 |_+1,x=>tr h [] [] x
def r9 (h:List (Nat×Ob)):Nat->AV->AV->Prop
 |0,x,y=>rv h [] [] x y
 |k+1,x,y=>rv h [] [] x y\/(∃ b j cs ds,y= .ptr b j/\x= .dI ds j/\get h b=some (.box cs)/\dA ds=true/\ds.length=cs.length/\∀ (i:Nat) d c,ds[i]? =some d->cs[i]? =some c->r9 h k d c)\/
  ∃ f cs ds,y= .fn f cs/\x= .fn f ds/\f<2000000/\ds.length=cs.length/\∀ (i:Nat) d c,ds[i]? =some d->cs[i]? =some c->r9 h k d c
theorem ZY {h:List (Nat×Ob)} {x y:AV} (e:tr h [] [] y=some x):rv h [] [] x y:=Df (S:=[]) (inv:=[]) _ _ e
theorem LW {f:AV->Option AV} {R:AV->AV->Prop} (hf:∀ y x,f y=some x->R x y):∀ (ys xs:List AV),mapA f ys=some xs->xs.length=ys.length/\∀ (i:Nat) x y,xs[i]? =some x->ys[i]? =some y->R x y
 |[],xs,e=>by simp only [mapA,Option.some.injEq] at e;subst e;exact ⟨rfl,fun i d c hd=>by simp at hd⟩
 |y::ys,xs,e=>by
  simp only [mapA] at e
  split at e
  ·rename_i x hx
   split at e
   ·rename_i xs' hxs
    cases e
    obtain ⟨h1,h2⟩:=LW hf ys xs' hxs
    refine ⟨by simp [h1],fun i d c hd hc=> ?_⟩
    cases i with
    |zero=>simp at hd hc;subst hd hc;exact hf _ _ hx
    |succ i=>exact h2 i d c (by simpa using hd) (by simpa using hc)
   ·cases e
  ·cases e
theorem PO {h:List (Nat×Ob)}:∀ (k:Nat) (y x:AV),uq h k y=some x->r9 h k x y
 |0,y,x,e=>ZY (by simpa only [uq] using e)
 |k+1,y,x,e=>by
  cases y
  case ptr b j=>
   simp only [uq] at e
   split at e
   ·rename_i cs hg
    split at e
    ·rename_i ds hd
     cases hp:dA ds with
     |false=>rw [hp] at e;cases e
     |true=>
      rw [hp] at e
      cases e
      obtain ⟨h1,h2⟩:=LW (PO k) cs ds hd
      exact .inr (.inl ⟨b,j,cs,ds,rfl,rfl,hg,hp,h1,h2⟩)
    ·cases e
   ·cases e
  case fn f cs=>
   simp only [uq] at e
   split at e
   ·rename_i ds hd
    cases hp:Nat.blt f 2000000 with
    |false=>rw [hp] at e;cases e
    |true=>
     rw [hp] at e
     cases e
     obtain ⟨h1,h2⟩:=LW (PO k) cs ds hd
     exact .inr (.inr ⟨f,cs,ds,rfl,rfl,by simpa [Nat.blt_eq] using hp,h1,h2⟩)
   ·cases e
  all_goals exact .inl (ZY (by simpa only [uq] using e))
theorem ait {h:List (Nat×Ob)} {B:List Nat} {b k:Nat} {cs:List AV} (hb:b ∈ B) (hg:get h b=some (.box cs)) (hk:k ∈ dF cs):k ∈ cont h B:=by
 simp only [cont,List.mem_flatMap]
 exact ⟨b,hb,by rw [hg];exact hk⟩
theorem LX:∀ {ys:List AV} {y:AV} {b:Nat},y ∈ ys->b ∈ deep y->b ∈ dF ys
 |c::ys,y,b,hy,hb=>by
  simp only [dF,List.mem_append]
  rcases List.mem_cons.1 hy with rfl|hy
  ·exact .inl hb
  ·exact .inr (LX hy hb)
def pR (h:List (Nat×Ob)):Nat->List Nat->List Nat
 |0,L=>L
 |k+1,L=>L++pR h k (cont h L)
theorem Z0 {h:List (Nat×Ob)}:∀ (k:Nat) (L:List Nat) (b:Nat),b ∈ pR h k L->b ∈ pR h (k+1) L
 |0,L,b,hb=>by simp only [pR,List.mem_append] at hb ⊢;exact .inl hb
 |k+1,L,b,hb=>by
  simp only [pR,List.mem_append] at hb ⊢
  rcases hb with hb|hb
  ·exact .inl hb
  ·exact .inr (by have:=Z0 k _ b hb;simpa only [pR,List.mem_append] using this)
theorem Z4 {h:List (Nat×Ob)}:∀ (k:Nat) (L:List Nat) (b:Nat),b ∈ L->b ∈ pR h k L
 |0,L,b,hb=>hb
 |k+1,L,b,hb=>by simp only [pR,List.mem_append];exact .inl hb
theorem r9.cg {h h':List (Nat×Ob)}:∀ (k:Nat) (L:List Nat) (x y:AV),r9 h k x y->(∀ b ∈ deep y,b ∈ L)->(∀ b ∈ pR h k L,get h' b=get h b)->r9 h' k x y
 |0,L,x,y,hx,hL,hh=>Ph _ _ (fun b hb=>hh b (hL b hb)) hx
 |k+1,L,x,y,hx,hL,hh=>by
  rcases hx with hx|⟨b,j,cs,ds,rfl,rfl,hg,hp,hl,hc⟩|⟨f,cs,ds,rfl,rfl,hf,hl,hc⟩
  ·exact .inl (Ph _ _ (fun b hb=>hh b (Z4 _ _ _ (hL b hb))) hx)
  ·have hbL:=hL b (by simp [deep])
   refine .inr (.inl ⟨b,j,cs,ds,rfl,rfl,by rw [hh b (Z4 _ _ _ hbL)];exact hg,hp,hl,fun i d c hd hcc=> ?_⟩)
   exact r9.cg k (cont h L) d c (hc i d c hd hcc) (fun m hm=>ait hbL hg (LX (List.mem_of_getElem? hcc) hm)) (fun m hm=>hh m (by simp only [pR,List.mem_append];exact .inr hm))
  ·refine .inr (.inr ⟨f,cs,ds,rfl,rfl,hf,hl,fun i d c hd hcc=> ?_⟩)
   exact r9.cg k L d c (hc i d c hd hcc) (fun m hm=>hL m (by simp only [deep];exact LX (List.mem_of_getElem? hcc) hm)) (fun m hm=>hh m (Z0 _ _ _ hm))
def Fb (C:Ctx) (w:World) (g:Nat):Prop:=(C.ok g\/C.new g\/C.ext g)/\g<w.heap.size
section
variable {C:Ctx} {ρ:Nat->Loc} {U:Nat->Prop} {h:List (Nat×Ob)} {w:World}
theorem Z5 {g:Nat} (hg:aP C (dK ρ [] []) w g):Fb C w g:=⟨hg.1.imp id .inl,hg.2.1⟩
theorem VR.op (hr:HR C ρ U h w):∀ (k:Nat) {x y:AV} {u:Value},VR w (aP C ρ w) ρ U y u->r9 h k x y->VR w (Fb C w) (dK ρ [] []) (jy [] []) x u
 |0,x,y,u,hv,hx=>(kS hr hv x hx).mono (fun _=>Z5) (fun _ _=>rfl) (fun _ h=>h) (fun _ _=> .inl rfl)
 |k+1,x,y,u,hv,hx=>by
  rcases hx with hx|⟨b,j,cs,ds,rfl,rfl,hg,hp,hl,hc⟩|⟨f,cs,ds,rfl,rfl,hf,hl,hc⟩
  ·exact (kS hr hv x hx).mono (fun _=>Z5) (fun _ _=>rfl) (fun _ h=>h) (fun _ _=> .inl rfl)
  ·obtain ⟨_,a,rfl,had⟩:=hv.rM
   obtain ⟨hub,g,o,n,e,cells,h1,h2,h3,h4,h5⟩:=hr.hp b _ hg
   rw [had g o n h1]
   have hown:=hr.dJ g ⟨b,o,n,h1⟩
   have key:∀ (i:Nat) (c:AV),ds[i]? =some c->∃ u,cells[o+i]? =some u/\VP w (Fb C w) c u:=fun i c hi=>by
    have hlt:i<cs.length:=by rw [<-hl];exact (List.getElem?_eq_some_iff.1 hi).1
    have hy:=List.getElem?_eq_getElem hlt
    obtain ⟨u,hu,huv⟩:=h5 i _ hy
    exact ⟨u,hu,Pe (VR.op hr k huv (hc i c _ hi hy)) (KV _ hp i c hi)⟩
   refine .p (.dI g o (fun i=>(cells[o+i]?).getD undef) ⟨?_,hown.2⟩ (fun i c hi=> ?_) (fun i c hi=> ?_))
   ·rcases hown.1 with h|h
    ·exact .inr (.inr h)
    ·exact .inr (.inl h)
   ·obtain ⟨u,hu,_⟩:=key i c hi
    rw [Ep h2,hu];rfl
   ·obtain ⟨u,hu,hv⟩:=key i c hi
    simp only [hu,Option.getD_some];exact hv
  ·obtain ⟨vs,rfl,h1,h2⟩:=hv.KO hf
   refine .fn hf (hl.trans h1) fun i d u hd hu=> ?_
   have hlt:i<cs.length:=by rw [<-hl];exact (List.getElem?_eq_some_iff.1 hd).1
   have hcc:=List.getElem?_eq_getElem hlt
   exact VR.op hr k (h2 i _ u hcc hu) (hc i d _ hd hcc)
end
theorem Fn.Fe {P:Program} {f:FuncId} {xs ys:List AV} {r:AV} {es:List Ob} {h:List (Nat×Ob)} (hF:Fn P f xs [] r [] es) (nm:Nat) (ha:mapA (uq h 4) ys=some xs) (hes:es.all rowOk=true) (hna:∀ o ∈ es,lW o) (hm:es.length<=8)
 (hx:dW es.length r=true) (hr0:na r=true):jK P nm f ys h ⟨sh nm r,dB nm es,pR h 4 (dF ys)⟩:=by
 intro h' hh' Q hQ
 refine ⟨hF.1,fun C ρ U w vals hr hfr hvl=> ?_⟩
 obtain ⟨hl,ha'⟩:=LW (PO 4) _ _ ha
 have hd:∀ g,¬ jv (dK ρ [] []) g:=fun g ⟨k,o,n,hk⟩=>by simp [dK,get] at hk
 let C':Ctx:=⟨w,Fb C w,(fun _=>False),(fun _=>none),0,(fun g hg=>hg.elim),(fun i l hl=>by cases hl),(fun _=>False),(fun _ h=>h.elim)⟩
 have hok:∀ g,Fb C w g->aP C' (dK ρ [] []) w g:=fun g hg=>⟨.inl hg,hg.2,hd g⟩
 have hrc:HR C' (dK ρ [] []) (jy [] []) (gq 0 []) w:=by
  refine ⟨fun i o hi=>by simp [gq,dB,get] at hi,fun i _=>by simp [dK,get],fun i i' g o n o' n' h1 _=>absurd ⟨i,o,n,h1⟩ (hd g),rfl,rfl,rfl,Nat.le_refl _,
   fun g _ _ _=>rfl,fun g hg=>⟨hg.2,fun h=>h.elim,fun h=>h⟩,fun g ho=>absurd ho (hd g),fun i l hi=>by cases hi⟩
 have Pj:VL w (aP C' (dK ρ [] []) w) (dK ρ [] []) (jy [] []) xs vals:=by
  refine ⟨by rw [hl];exact hvl.1,fun i x u hi hu=> ?_⟩
  have hlt:i<ys.length:=by rw [<-hl];exact (List.getElem?_eq_some_iff.1 hi).1
  have hy:=List.getElem?_eq_getElem hlt
  have hxy:=r9.cg (h':=h') 4 (dF ys) _ _ (ha' i x _ hi hy) (fun b hb=>LX (List.mem_of_getElem? hy) hb) hh'
  exact (VR.op hr 4 (hvl.2 i _ u hy hu) hxy).mono hok (fun _ _=>rfl) (fun _ h=>h) (fun _ _=> .inl rfl)
 refine (hF.2 C' _ _ w vals hrc (fun b hb=>by simp [jy] at hb) Pj).mono fun e w' hpost=> ?_
 obtain ⟨v,ρ1,U1,rfl,hr1,hv1⟩:=hpost
 obtain ⟨hR,hkeep⟩:=back (C':=C') (B:=[]) (nm:=nm) hr rfl (fun g=>by simp [C']) (fun i=>by simp [C']) hr1 (fun b hb=>by simp at hb) rfl (by simp) hes hm (cs:=[]) rfl (fun i cs h=>by simp at h) hfr (fun _ h=>h) (.inr ⟨rfl,hna⟩)
 refine ⟨v,sh nm r,_,iw ρ ρ1 nm es.length,CV U nm es.length,rfl,hR,?_,hkeep,fun b hb=> ?_,?_⟩
 ·refine VR.Y1 (fun i hi=> ?_) (fun i hi=> .inr ⟨by omega,by omega⟩) hv1 hx hr0
  unfold iw
  rw [if_pos ⟨by omega,by omega⟩]
  congr 2;omega
 ·rcases hb with hb|hb
  ·exact .inl hb
  ·exact .inr ⟨hb.1,by omega⟩
 ·simpa [gu] using hQ
def Fe (run:RunT) (nm:Nat) (h:List (Nat×Ob)) (f:FuncId) (ys:List AV):Option Rec:=
 match mapA (uq h 4) ys with
 |some xs=>match run f xs [] [] with
  |some (vs,h')=>match mU 0 (ol 0 vs).eraseDups vs h' with
   |some (r,_,es)=>bif (decide (es.length<=8)&&dW es.length r)&&(na r&&es.all vU) then some ⟨sh nm r,dB nm es,pR h 4 (dF ys)⟩ else none
   |none=>none
  |none=>none
 |none=>none
theorem aiu {P:Program} {run:RunT} (hrun:gF P run) {nm:Nat} {h:List (Nat×Ob)} {f:FuncId} {ys:List AV} {r:Rec} (e:Fe run nm h f ys=some r):jK P nm f ys h r:=by
 simp only [Fe] at e
 split at e
 ·rename_i xs hx
  split at e
  ·rename_i vs h1 hr
   split at e
   ·rename_i r0 bs es hF
    obtain ⟨t,res,hv,hrun'⟩:=hrun _ _ _ _ _ _ hr
    obtain ⟨xZ,hl,hes⟩:=Dh hv hF
    have hb0:bs=[]:=List.length_eq_zero_iff.1 hl
    subst hb0
    have hFn:=(hrun' _ _ _ xZ).EX
    cases hc:((decide (es.length<=8)&&dW es.length r0)&&(na r0&&es.all vU)) with
    |false=>rw [hc] at e;cases e
    |true=>
     rw [hc] at e
     simp only [cond_true,Option.some.injEq] at e
     subst e
     simp only [Bool.and_eq_true,decide_eq_true_eq,List.all_eq_true] at hc
     exact hFn.Fe nm hx hes (fun o ho=>ZJ (hc.2.2 o ho)) hc.1.1 hc.1.2 hc.2.1
   ·cases e
  ·cases e
 ·cases e
def pU (run:RunT) (nm:Nat) (h:List (Nat×Ob)) (f:FuncId) (ys:List AV):Option Rec:=
 bif dA ys then (match run f ys [] [] with
  |some (vs,h')=>match mU 0 (ol 0 vs).eraseDups vs h' with
   |some (r,_,es)=>bif decide (es.length<=8)&&dW es.length r then some ⟨sh nm r,dB nm es,[]⟩ else none
   |none=>none
  |none=>none)
 else match ain h ys with
 |[]=>match jQ h [] [] ys with
  |some xs=>match run f xs [] [] with
   |some (vs,h')=>match mU 0 (ol 0 vs).eraseDups vs h' with
    |some (r,_,es)=>bif decide (es.length<=8)&&dW es.length r then
     (bif na r&&es.all vU then some ⟨sh nm r,dB nm es,dF ys⟩
      else bif pK h (dF ys)&&dA xs then some ⟨sh nm r,dB nm es++kills (dF ys),dF ys⟩ else none)
     else none
    |none=>none
   |none=>Fa (ol 0) run nm h f ys [] (qJ ys).eraseDups ((LU h (dF ys)).filter fun b=> !(qJ ys).contains b)
  |none=>none
 |B=>match (bif (qJ ys).isEmpty then none else Fe run nm h f ys) with
  |some r=>some r
  |none=>match Fa (ol B.length) run nm h f ys B [] (LU h (dF ys++cont h B)).eraseDups with
  |some r=>some r
  |none=>bif (qJ ys).isEmpty then none else Fa (ol B.length) run nm h f ys B (qJ ys).eraseDups ((LU h (dF ys++cont h B)).eraseDups.filter fun b=> !(qJ ys).contains b)
theorem qK {P:Program} {run:RunT} (hrun:gF P run) {nm:Nat} {h:List (Nat×Ob)} {f:FuncId} {ys:List AV} {r:Rec} (e:pU run nm h f ys=some r):jK P nm f ys h r:=by
 have hfn:∀ {xs:List AV} {vs:List AV} {h':List (Nat×Ob)} {r0:AV} {bs:List (List AV)} {es:List Ob} {O:List Nat},run f xs [] []=some (vs,h')->mU 0 O vs h'=some (r0,bs,es)->Fn P f xs [] r0 [] es/\es.all rowOk=true:=by
  intro xs vs h' r0 bs es O hr hF
  obtain ⟨t,res,hv,hrun'⟩:=hrun _ _ _ _ _ _ hr
  obtain ⟨xZ,hl,hes⟩:=Dh hv hF
  have hb0:bs=[]:=List.length_eq_zero_iff.1 hl
  subst hb0
  exact ⟨(hrun' _ _ _ xZ).EX,hes⟩
 unfold pU at e
 cases hp:dA ys with
 |true=>
  rw [hp] at e
  simp only [cond_true] at e
  split at e
  ·rename_i vs h' hr
   split at e
   ·rename_i r0 bs es hF
    obtain ⟨hFn,hes⟩:=hfn hr hF
    cases hc:(decide (es.length<=8)&&dW es.length r0) with
    |false=>rw [hc] at e;cases e
    |true=>
     rw [hc] at e
     simp only [cond_true,Option.some.injEq] at e
     subst e
     simp only [Bool.and_eq_true,decide_eq_true_eq] at hc
     exact hFn.LB hp hes hc.1 hc.2
   ·cases e
  ·cases e
 |false=>
  rw [hp] at e
  simp only [cond_false] at e
  split at e
  ·split at e
   ·rename_i xs hx
    split at e
    ·rename_i vs h' hr
     split at e
     ·rename_i r0 bs es hF
      obtain ⟨hFn,hes⟩:=hfn hr hF
      have ha:au h [] [] xs ys:=pQ ys xs hx
      cases hc:(decide (es.length<=8)&&dW es.length r0) with
      |false=>rw [hc] at e;cases e
      |true=>
       rw [hc] at e
       simp only [cond_true] at e
       simp only [Bool.and_eq_true,decide_eq_true_eq] at hc
       cases hn:(na r0&&es.all vU) with
       |true=>
        rw [hn] at e
        simp only [cond_true,Option.some.injEq] at e
        subst e
        simp only [Bool.and_eq_true,List.all_eq_true] at hn
        exact hFn.EI nm ha hes (fun o ho=>ZJ (hn.2 o ho)) hc.1 hc.2 hn.1
       |false=>
        rw [hn] at e
        simp only [cond_false] at e
        cases hz:(pK h (dF ys)&&dA xs) with
        |false=>rw [hz] at e;cases e
        |true=>
         rw [hz] at e
         simp only [cond_true,Option.some.injEq] at e
         subst e
         simp only [Bool.and_eq_true] at hz
         intro h2 hh Q hQ
         refine Zb (dF ys) (fun b hb=> ?_) (CY (h:=h) hh xs ys (fun b hb=>hb) ha) ?_
         ·obtain ⟨e1,sz,PN,hx1⟩:=LA _ hz.1 b hb
          exact ⟨e1,sz,PN,by rw [hh b hb];exact hx1⟩
         ·exact (hFn.LB (h:=kills (dF ys)++h2) hz.2 hes hc.1 hc.2) _ (fun _ _=>rfl) Q (by simpa only [List.append_assoc] using hQ)
     ·cases e
    ·exact PL hrun e
   ·cases e
  ·split at e
   ·rename_i r1 hr1
    cases e
    generalize (qJ ys).isEmpty=q at hr1
    cases q with
    |true=>cases hr1
    |false=>exact aiu hrun hr1
   split at e
   ·rename_i r1 hr1
    cases e
    exact PL hrun hr1
   ·generalize (qJ ys).isEmpty=q at e
    cases q with
    |true=>cases e
    |false=>exact PL hrun e
end Go.Eng
