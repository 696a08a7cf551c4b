/-
  Part of a proof: lemmas and definitions of this work.
  No condition.
-/
import Derived.Test.YthhjbngoibmpgaaGreatA03
set_option linter.all false
set_option maxRecDepth 100000
set_option maxHeartbeats 8000000
namespace Go.Eng
open Go
theorem VR.Cn {w w':World} {ok ok':Nat->Prop} {ρ ρ':Nat->Loc} {U U':Nat->Prop} {S:List (Nat×Nat)} (hS:∀ k b,get S k=some b->U' k/\ρ' k=ρ b) {y:AV} {u:Value} (h:VR w ok ρ U y u) (hn:na y=true):
 ∀ x,rv [] S [] x y->VR w' ok' ρ' U' x u:=by
 have key:VR w' ok' ρ U y u:=by
  induction h with
  |p h=>exact .p (h.na hn)
  |agg hl _ ih=>exact .agg hl fun i c u h1 h2=>ih i c u h1 h2 (mP _ (by simpa [na] using hn) i c h1)
  |aF hl _ ih=>exact .aF hl fun i c u h1 h2=>ih i c u h1 h2 (mP _ (by simpa [na] using hn) i c h1)
  |fn hf hl _ ih=>exact .fn hf hl fun i c u h1 h2=>ih i c u h1 h2 (mP _ (by simpa [na] using hn) i c h1)
  |own hu h=>exact .own hu h
  |ptr=>simp [na] at hn
  |rp=>simp [na] at hn
  |mp=>simp [na] at hn
 exact key.rn hS (fun _ h=>h) (fun _ _=>rfl)
theorem fM.Cn {w':World} {ok ok':Nat->Prop} {ρ ρ':Nat->Loc} {U U':Nat->Prop} {S:List (Nat×Nat)} (hS:∀ k b,get S k=some b->U' k/\ρ' k=ρ b) {l:Loc} {x y:Ob} (h:fM w' ok ρ U l y) (hn:lS y)
 (hx:bO [] S [] x y):fM w' ok' ρ' U' l x:=by
 cases y with
 |box cs=>
  cases x with
  |box ds=>
   simp only [bO] at hx
   obtain ⟨g,o,n,e,cells,h1,h2,h3,h4,h5⟩:=h
   have h6:=iU _ _ hx
   refine ⟨g,o,n,e,cells,h1,h2,h3,by omega,fun j c hj=> ?_⟩
   obtain ⟨z,h7,h8⟩:=iV _ _ hx j c hj
   obtain ⟨u,hu,hv⟩:=h5 j z h7
   exact ⟨u,hu,hv.Cn hS (hn z (List.mem_of_getElem? h7)) c h8⟩
  |_=>simp only [bO] at hx
 |row e sz xs=>
  cases x with
  |row e' sz' ys=>
   simp only [bO] at hx
   obtain ⟨rfl,rfl,rfl⟩:=hx
   rcases h with h|⟨g,o,n,cells,h1,h2,h3,h4,h5,h6⟩
   ·exact .inl h
   ·refine .inr ⟨g,o,n,cells,h1,h2,h3,h4,h5,fun k x j c hk hj=> ?_⟩
    obtain ⟨u,hu,h1c,hv⟩:=h6 k x j c hk hj
    exact ⟨u,hu,h1c,hv.na (hn x (List.mem_of_getElem? hk) c (List.mem_of_getElem? hj))⟩
  |_=>simp only [bO] at hx
 |_=>simp [lS] at hn
section
variable {P:Program} {f:FuncId} {xs ys:List AV} {bs bs' cs':List (List AV)} {es es':List Ob} {r r':AV} {h:List (Nat×Ob)} {B:List Nat} {nm:Nat} {Q:AV->List (Nat×Ob)->Prop}
theorem gu.Ch (hF:gu P f xs bs [] r bs' es) (ha:au h (dS B []) [] xs ys)
 (hbl:bs.length=B.length) (hB4:B.length<=4) (Pj:B.Nodup)
 (hb:∀ (i b:Nat),B[i]? =some b->∃ cs cs0,bs[i]? =some cs/\get h b=some (.box cs0)/\au [] (dS B []) [] cs cs0)
 (ahn:bs'.length=B.length) (hcl':cs'.length=B.length) (hb':∀ (i:Nat) (c:List AV),cs'[i]? =some c->∃ x,bs'[i]? =some x/\jP x=true/\au [] (ji B nm es.length) [] c x)
 (hel:es'.length=es.length) (hm:es.length<=8) (he:∀ (i:Nat) (y:Ob),es'[i]? =some y->∃ x,es[i]? =some x/\lS x/\bO [] (ji B nm es.length) [] y x)
 (hna:na r=true) (hr':rv [] (ji B nm es.length) [] r' r) (hQ:Q r' (dB nm es'++(gq B cs'++h))):rR P nm f ys h Q:=by
 refine ⟨hF.1,fun C ρ U w vals hr hfr hvl=> ?_⟩
 have uj:∀ b ∈ B,U b/\∃ cs0,get h b=some (.box cs0):=fun b iy=>by
  obtain ⟨i,hi⟩:=List.mem_iff_getElem?.1 iy
  obtain ⟨cs,cs0,_,h2,_⟩:=hb i b hi
  exact ⟨(hr.hp b _ h2).1,cs0,h2⟩
 let C':Ctx:=⟨w,aP C (dH ρ (dS B []) []) w,(fun g=>∃ b ∈ B,∃ o n,ρ b=Loc.at g o n),(fun i=>(B[i]?).map ρ),0,(fun g hg=>by
  obtain ⟨b,iy,o,n,hl⟩:=hg
  obtain ⟨i,hi⟩:=List.mem_iff_getElem?.1 iy
  exact ⟨i,o,n,by simp [hi,hl]⟩),(fun i l hl=>by
  rcases Nat.lt_or_ge i B.length with h1|h1
  ·omega
  ·simp [List.getElem?_eq_none h1] at hl),(fun _=>False),(fun _ h=>h.elim)⟩
 let ρc:Nat->Loc:=dH ρ (dS B []) []
 let Uc:Nat->Prop:=fun k=>∃ b,get (dS B []) k=some b
 have qJ:∀ k b,get (dS B []) k=some b->ρc k=ρ b:=fun k b hk=>xN hk
 have ul:∀ k g o n,ρc k= .at g o n->∃ b,get (dS B []) k=some b/\ρ b= .at g o n:=fun k g o n hk=>by
  cases hs:get (dS B []) k with
  |none=>
   have:ρc k= .dead:=by show dH ρ (dS B []) [] k=_;simp [dH,hs]
   rw [this] at hk;cases hk
  |some b=>exact ⟨b,rfl,by rw [<-qJ k b hs];exact hk⟩
 have hown0:∀ g,jq ρc g->jq ρ g:=fun g ⟨k,o,n,hk⟩=>by
  obtain ⟨b,_,hb⟩:=ul k g o n hk
  exact ⟨b,o,n,hb⟩
 have Zl:∀ g,aP C ρc w g->aP C' ρc w g:=fun g hg=>⟨.inl hg,hg.2.1,hg.2.2⟩
 have hok:∀ g,aP C ρ w g->aP C' ρc w g:=fun g hg=>Zl g (YX hg)
 have Ck:∀ k b,get (dS B []) k=some b->Uc k/\ρc k=ρ b:=fun k b hk=>⟨⟨b,hk⟩,qJ k b hk⟩
 have Pk:∀ k,Uc k->k<8:=fun k ⟨b,hk⟩=>by
  rcases rV hk with h1|⟨h1,h2⟩
  ·have:=(List.getElem?_eq_some_iff.1 h1).1;omega
  ·simp at h2
 have hr0:HR C' ρc Uc (outs bs []) w:=by
  refine ⟨fun k o hk=> ?_,fun k hk=> ?_,fun k k' g o n o' n' h1 h2=> ?_,rfl,rfl,rfl,Nat.le_refl _,fun g _ _ _=>rfl,
   fun g hg=>⟨hg.2.1,fun ⟨b,iy,o,n,hl⟩=>by
    obtain ⟨i,hi⟩:=List.mem_iff_getElem?.1 iy
    have hs:=Cj (G:=[]) hi hB4
    exact hg.2.2 ⟨i,o,n,(qJ i b hs).trans hl⟩,fun h=>h⟩,fun g ho=> ?_,fun i l hi=> ?_⟩
  ·unfold outs at hk
   rw [get_append,gG,jg] at hk
   simp only [Nat.zero_le,if_true,Nat.sub_zero,List.getElem?_map] at hk
   cases hbk:bs[k]? with
   |some cs=>
    rw [hbk] at hk
    simp only [Option.map_some,Option.some.injEq] at hk
    subst hk
    have hlt:k<B.length:=by rw [<-hbl];exact (List.getElem?_eq_some_iff.1 hbk).1
    have hib:B[k]? =some B[k]:=List.getElem?_eq_getElem hlt
    obtain ⟨cs1,cs0,h1,h2,h3⟩:=hb k _ hib
    rw [hbk] at h1;cases h1
    have hs:=Cj (G:=[]) hib hB4
    refine ⟨⟨_,hs⟩,?_⟩
    rw [qJ k _ hs]
    exact (hr.hp _ _ h2).2.rn Ck hok (fun _ _=>rfl) (fun _ _ _ _=>rfl) (by simp only [bO];exact h3)
   |none=>
    rw [hbk] at hk
    simp only [Option.map_none] at hk
    simp [dB,get] at hk
  ·cases hs:get (dS B []) k with
   |none=>show dH ρ (dS B []) [] k=_;simp [dH,hs]
   |some b=>
    unfold outs at hk
    rw [get_append,gG,jg] at hk
    simp only [Nat.zero_le,if_true,Nat.sub_zero,List.getElem?_map] at hk
    rcases rV hs with h1|⟨h1,h2⟩
    ·have hlt:k<bs.length:=by rw [hbl];exact (List.getElem?_eq_some_iff.1 h1).1
     rw [List.getElem?_eq_getElem hlt] at hk
     simp at hk
    ·simp at h2
  ·obtain ⟨b,hs,hl⟩:=ul k g o n h1
   obtain ⟨b',hs',hl'⟩:=ul k' g o' n' h2
   have e:=hr.inj b b' g o n o' n' hl hl'
   subst e
   rcases rV hs with h3|⟨h3,h4⟩<;>rcases rV hs' with h5|⟨h5,h6⟩
   ·obtain ⟨p1,q1⟩:=List.getElem?_eq_some_iff.1 h3
    obtain ⟨p2,q2⟩:=List.getElem?_eq_some_iff.1 h5
    exact (List.getElem_inj Pj).1 (q1.trans q2.symm)
   ·exact absurd h6 (by simp)
   ·exact absurd h4 (by simp)
   ·simp at h4
  ·obtain ⟨k,o,n,hk⟩:=ho
   obtain ⟨b,hs,hl⟩:=ul k g o n hk
   refine ⟨?_,(hr.dJ g ⟨b,o,n,hl⟩).2⟩
   rcases rV hs with h3|⟨h3,h4⟩
   ·exact .inl ⟨b,List.mem_of_getElem? h3,o,n,hl⟩
   ·simp at h4
  ·have hlt:i<B.length:=by
    rcases Nat.lt_or_ge i B.length with h1|h1
    ·exact h1
    ·simp [C',List.getElem?_eq_none h1] at hi
   have hib:B[i]? =some B[i]:=List.getElem?_eq_getElem hlt
   obtain ⟨cs,cs1,h1,h2,h3⟩:=hb i _ hib
   have hs:=Cj (G:=[]) hib hB4
   refine ⟨?_,⟨_,hs⟩,cs,?_⟩
   ·rw [qJ i _ hs]
    simp only [C',hib,Option.map_some,Option.some.injEq] at hi
    exact hi
   ·exact Ab h1
 have xW:VL w (aP C' ρc w) ρc Uc xs vals:=by
  have hl:=iU _ _ ha
  refine ⟨by rw [hl];exact hvl.1,fun i x u hi hu=> ?_⟩
  obtain ⟨y,hy,hxy⟩:=iV _ _ ha i x hi
  exact (lD hr (hvl.2 i y u hy hu) x hxy).mono Zl (fun _ _=>rfl) (fun k hk=>by
   rcases hk with hk|hk
   ·exact vM hk
   ·simp at hk) (fun _ _=> .inl rfl)
 refine (hF.2 C' ρc Uc w vals hr0 Pk xW).mono fun e w' hpost=> ?_
 obtain ⟨v,ρ1,U1,rfl,hr1,hv1⟩:=hpost
 let ρ2:Nat->Loc:=fun k=>if nm<=k/\k<nm+es.length then ρ1 (4+(k - nm)) else ρ k
 let U2:Nat->Prop:=fun k=>U k\/(nm<=k/\k<nm+es.length)
 have xY:∀ k,nm<=k/\k<nm+es.length->ρ2 k=ρ1 (4+(k - nm)):=fun k hk=>by show (if _ then _ else _)=_;rw [if_pos hk]
 have qK:∀ k,U k->ρ2 k=ρ k:=fun k hk=>by
  show (if _ then _ else _)=_
  rw [if_neg (fun hh=>hfr k hk ⟨hh.1,by omega⟩)]
 have hsz:w.heap.size<=w'.heap.size:=hr1.size
 have hoff:∀ i g o n,i<es.length->ρ1 (4+i)= .at g o n->w.heap.size<=g/\g<w'.heap.size:=fun i g o n hi hl=>by
  obtain ⟨h1,h2⟩:=hr1.dJ g ⟨_,o,n,hl⟩
  refine ⟨?_,h2⟩
  rcases h1 with h1|h1|h1
  ·obtain ⟨b,o',n',hb⟩:=C'.xC g h1
   obtain ⟨h3,_,_⟩:=hr1.fix b _ hb
   have:=hr1.inj (4+i) b g o n o' n' hl h3
   have:=C'.BB b _ hb
   omega
  ·exact h1.elim
  ·exact h1
 have hold:∀ k g o n,ρ k= .at g o n->g<w.heap.size:=fun k g o n hl=>(hr.dJ g ⟨k,o,n,hl⟩).2
 have hheap:∀ g,g<w.heap.size->(∀ b ∈ B,∀ o n,ρ b≠.at g o n)->w'.heap[g]? =w.heap[g]? :=fun g hg h1=>
  hr1.old g hg (fun ⟨b,iy,o,n,hl⟩=>h1 b iy o n hl) (fun h=>h)
 have hcase:∀ k g o n,ρ2 k= .at g o n->(∃ i,k=nm+i/\i<es.length/\ρ1 (4+i)= .at g o n)\/ρ k= .at g o n:=fun k g o n hk=>by
  by_cases h1:nm<=k/\k<nm+es.length
  ·rw [xY k h1] at hk
   exact .inl ⟨k - nm,by omega,by omega,hk⟩
  ·have:ρ2 k=ρ k:=by show (if _ then _ else _)=_;rw [if_neg h1]
   rw [this] at hk
   exact .inr hk
 have hok2:∀ g,aP C ρ w g->aP C ρ2 w' g:=fun g hg=>⟨hg.1,by have:=hg.2.1;omega,fun ⟨k,o,n,hk⟩=>by
  rcases hcase k g o n hk with ⟨i,rfl,hi,hl⟩|hl
  ·have:=(hoff i g o n hi hl).1
   have:=hg.2.1;omega
  ·exact hg.2.2 ⟨k,o,n,hl⟩⟩
 have vO:∀ g,aP C ρ w g->w'.heap[g]? =w.heap[g]? :=fun g hg=>hheap g hg.2.1 (fun b _ o n hl=>hg.2.2 ⟨b,o,n,hl⟩)
 have pI:Later U ρ ρ2:=fun k hk=> .inl (qK k hk)
 have hSo:∀ k i,get (ji B nm es.length) k=some i->U2 k/\ρ2 k=ρ1 i:=fun k i hk=>by
  rcases Zc hk with h1|⟨h1,h2,rfl⟩
  ·have hkB:=List.mem_of_getElem? h1
   have hfx:=(hr1.fix i (ρ k) (by show (B[i]?).map ρ=_;rw [h1];rfl)).1
   exact ⟨.inl (uj k hkB).1,by rw [qK k (uj k hkB).1,hfx]⟩
  ·exact ⟨.inr ⟨h1,h2⟩,xY k ⟨h1,h2⟩⟩
 refine ⟨v,r',_,ρ2,U2,rfl,⟨fun k o hk=> ?_,fun k hk=> ?_,fun k k' g o n o' n' h1 h2=> ?_,hr1.os.trans hr.os,hr1.tape.trans hr.tape,hr1.output.trans hr.output,Nat.le_trans hr.size hsz,
  fun g hg he hv=> ?_,hr.kL,fun g ho=> ?_,fun b l hb2=> ?_⟩,hv1.Cn hSo hna r' hr',fun x u hx=>hx.mono hok2 vO (fun k hk=> .inl hk) pI,fun b hb2=> ?_,hQ⟩
 ·rw [get_append,jg] at hk
  by_cases hin:nm<=k/\k<nm+es.length
  ·have hi:k - nm<es'.length:=by omega
   rw [if_pos hin.1,List.getElem?_eq_getElem hi] at hk
   cases hk
   obtain ⟨x,hx1,hxn,hx2⟩:=he (k - nm) _ (List.getElem?_eq_getElem hi)
   refine ⟨.inr hin,?_⟩
   rw [xY k hin]
   have hgt:get (outs bs' es) (4+(k - nm))=some x:=HV (by omega) hx1
   exact (hr1.hp _ _ hgt).2.Cn hSo hxn hx2
  ·have hno:(if nm<=k then es'[k - nm]? else none)=none:=by
    split
    ·exact List.getElem?_eq_none (by omega)
    ·rfl
   rw [hno] at hk
   simp only [get_append] at hk
   cases hbx:get (gq B cs') k with
   |some o'=>
    rw [hbx] at hk;cases hk
    obtain ⟨i,c2,h1,h2,rfl⟩:=xQ B cs' k _ hbx
    have hkB:=List.mem_of_getElem? h1
    refine ⟨.inl (uj k hkB).1,?_⟩
    obtain ⟨x,hx1,hxn,hx2⟩:=hb' i c2 h2
    have hfx:=(hr1.fix i (ρ k) (by show (B[i]?).map ρ=_;rw [h1];rfl)).1
    rw [qK k (uj k hkB).1,<-hfx]
    exact (hr1.hp i _ (Ab hx1)).2.Cn hSo (fun c hc=>by
     obtain ⟨j,hj⟩:=List.mem_iff_getElem?.1 hc
     exact mP _ hxn j c hj) (by simp only [bO];exact hx2)
   |none=>
    rw [hbx] at hk
    simp only at hk
    obtain ⟨uf,ho⟩:=hr.hp k o hk
    refine ⟨.inl uf,?_⟩
    rw [qK k uf]
    refine fM.mono hok2 vO (fun k hk=> .inl hk) pI (fun g o n hl=>hheap g (hold k g o n hl) (fun b iy o' n' hb2=> ?_)) ho
    have:=hr.inj k b g o n o' n' hl hb2
    subst this
    exact HY B cs' k hbx hcl'.symm iy
 ·rw [get_append,jg] at hk
  have hin:¬ (nm<=k/\k<nm+es.length):=fun hh=>by
   rw [if_pos hh.1,List.getElem?_eq_getElem (show k - nm<es'.length by omega)] at hk
   cases hk
  have hno:(if nm<=k then es'[k - nm]? else none)=none:=by
   split
   ·exact List.getElem?_eq_none (by omega)
   ·rfl
  rw [hno] at hk
  simp only [get_append] at hk
  show (if _ then _ else _)=_
  rw [if_neg hin]
  cases hbx:get (gq B cs') k with
  |some o'=>rw [hbx] at hk;cases hk
  |none=>
   rw [hbx] at hk
   simp only at hk
   exact hr.hd k hk
 ·rcases hcase k g o n h1 with ⟨i,rfl,hi,hl⟩|hl<;>rcases hcase k' g o' n' h2 with ⟨i',rfl,hi',hl'⟩|hl'
  ·have:=hr1.inj _ _ g o n o' n' hl hl'
   omega
  ·have:=(hoff i g o n hi hl).1
   have:=hold _ g o' n' hl';omega
  ·have:=(hoff i' g o' n' hi' hl').1
   have:=hold _ g o n hl;omega
  ·exact hr.inj _ _ g o n o' n' hl hl'
 ·have hg':g<w.heap.size:=Nat.lt_of_lt_of_le hg hr.size
  rw [<-hr.old g hg he hv]
  have key:∀ b o n,ρ b≠.at g o n:=fun b o n hl=>by
   rcases (hr.dJ g ⟨b,o,n,hl⟩).1 with h1|h1|h1
   ·exact he h1
   ·exact hv h1
   ·omega
  exact hheap g hg' (fun b _=>key b)
 ·obtain ⟨k,o,n,hk⟩:=ho
  rcases hcase k g o n hk with ⟨i,rfl,hi,hl⟩|hl
  ·have h1:=hoff i g o n hi hl
   exact ⟨.inr (.inr (Nat.le_trans hr.size h1.1)),h1.2⟩
  ·exact ⟨(hr.dJ g ⟨k,o,n,hl⟩).1,by have:=hold k g o n hl;omega⟩
 ·obtain ⟨h1,h2,cs0,h3⟩:=hr.fix b l hb2
  refine ⟨by rw [qK b h2];exact h1,.inl h2,?_⟩
  have hin:¬ (nm<=b/\b<nm+es.length):=fun hh=>hfr b h2 ⟨hh.1,by omega⟩
  have hno:(if nm<=b then es'[b - nm]? else none)=none:=by
   split
   ·exact List.getElem?_eq_none (by omega)
   ·rfl
  rw [get_append,jg,hno]
  simp only [get_append]
  cases hbx:get (gq B cs') b with
  |some o'=>
   obtain ⟨i,c2,_,_,rfl⟩:=xQ B cs' b _ hbx
   exact ⟨c2,rfl⟩
  |none=>
   exact ⟨cs0,h3⟩
 ·rcases hb2 with h1|h1
  ·exact .inl h1
  ·exact .inr ⟨h1.1,by omega⟩
end
end Go.Eng
namespace Go.Eng
open Go
def Co:eY:= .block 999999 (.loop (.exit 999999))
def mark (p:List aG->Bool):eY->eY
 | .region ops d=>bif p ops then .seq Co (.region ops d) else .region ops d
 | .seq a b=> .seq (mark p a) (mark p b)
 | .cond c x y=> .cond c (mark p x) (mark p y)
 | .block id c=> .block id (mark p c)
 | .loop c=> .loop (mark p c)
 |c=>c
section
variable {P:Program} {C:Ctx}
theorem aht {p:List aG->Bool} (hm:P.follows .mixedOrders=true) (c:Code):∀ (sc:eY),gV P c=some sc->jK C.nt sc=true->
 ∀ (Q:Exit->St->Prop) (K:Exit->Act->World->Prop) (s:St) (a:Act) (w:World),At C s a w->iq P (mark p sc) Q s->
  (∀ e s' a' w',At C s' a' w'->Q e s'->K e a' w')->c.wp P K a w:=by
 induction c with
 |skip=>
  intro sc hs hok Q K s a w hA hw hK
  cases hs
  exact xL hm _ _ rfl hok Q K s a w hA hw hK
 |region id ops draw=>
  intro sc hs hok Q K s a w hA hw hK
  have hs0:=hs
  simp only [gV] at hs
  split at hs
  ·rename_i l hl
   cases hs
   simp only [mark] at hw
   cases hp:p l with
   |false=>
    rw [hp] at hw
    exact xL hm _ _ hs0 hok Q K s a w hA hw hK
   |true=>
    rw [hp] at hw
    obtain ⟨α,S,μ,a0,hW,hb⟩:=hw
    exact xL hm _ _ hs0 hok Q K (S a0) a w (hW.at hA) (hb a0) hK
  ·cases hs
 |seq x y xM ihy=>
  intro sc hs hok Q K s a w hA hw hK
  simp only [gV] at hs
  split at hs
  ·rename_i x' hx
   split at hs
   ·rename_i y' hy
    cases hs
    simp only [jK,Bool.and_eq_true] at hok
    refine wp_seq (xM x' hx hok.1 _ _ s a w hA hw fun e s' a' w' hA' hQ=> ?_)
    cases e with
    |normal=>exact ihy y' hy hok.2 Q K s' a' w' hA' hQ hK
    |exit i=>exact hK _ _ _ _ hA' hQ
    |goto l=>exact hK _ _ _ _ hA' hQ
    |ret=>exact hK _ _ _ _ hA' hQ
    |panic ch=>exact hK _ _ _ _ hA' hQ
    |outgrown=>exact hK _ _ _ _ hA' hQ
   ·cases hs
  ·cases hs
 |cond c x y xM ihy=>
  intro sc hs hok Q K s a w hA hw hK
  simp only [gV] at hs
  split at hs
  ·rename_i x' hx
   split at hs
   ·rename_i y' hy
    cases hs
    simp only [jK,Bool.and_eq_true] at hok
    simp only [mark,iq] at hw
    unfold qF at hw
    split at hw
    ·rename_i b hb
     have mK:=hA
     obtain ⟨ρ,U,hS,hU⟩:=hA
     have hc:=(bH hS.tm hb).dI
     exact wp_cond_split hc (fun hb=>xM x' hx hok.1 Q K s a w mK (hw.1 hb) hK) (fun hb=>ihy y' hy hok.2 Q K s a w mK (hw.2 hb) hK)
    ·exact hw.elim
    ·exact hw.elim
   ·cases hs
  ·cases hs
 |block id c ih=>
  intro sc hs hok Q K s a w hA hw hK
  simp only [gV] at hs
  split at hs
  ·rename_i c' hc
   cases hs
   simp only [jK] at hok
   refine wp_block (ih c' hc hok _ _ s a w hA hw fun e s' a' w' hA' hQ=> ?_)
   cases e with
   |exit i=>
    simp only [BM] at hQ
    simp only [Exit.inBlock]
    split
    ·rename_i h;rw [if_pos h] at hQ;exact hK _ _ _ _ hA' hQ
    ·rename_i h;rw [if_neg h] at hQ;exact hK _ _ _ _ hA' hQ
   |normal=>exact hK _ _ _ _ hA' hQ
   |goto l=>exact hK _ _ _ _ hA' hQ
   |ret=>exact hK _ _ _ _ hA' hQ
   |panic ch=>exact hK _ _ _ _ hA' hQ
   |outgrown=>exact hK _ _ _ _ hA' hQ
  ·cases hs
 |loop c ih=>
  intro sc hs hok Q K s a w hA hw hK
  simp only [gV] at hs
  split at hs
  ·rename_i c' hc
   cases hs
   simp only [jK] at hok
   obtain ⟨α,S,μ,a0,hW,hb⟩:=hw
   refine wp_loop (fun a w=>∃ x,At C (S x) a w) (z8 C S μ) ⟨a0,hW.at hA⟩ fun a w hI=> ?_
   obtain ⟨x0,hx0⟩:=hI
   obtain ⟨_,x,hx,hA'⟩:=Hy (μ:=μ) hx0
   refine ih c' hc hok _ _ (S x) a w hA' (hb x) fun e s' a' w' nQ hQ=> ?_
   cases e with
   |normal=>
    obtain ⟨x',hlt,hW'⟩:=hQ
    have h1:=hW'.at nQ
    refine ⟨⟨x',h1⟩,?_⟩
    have:=(Hy (μ:=μ) h1).1
    omega
   |exit i=>exact hK _ _ _ _ nQ hQ
   |goto l=>exact hK _ _ _ _ nQ hQ
   |ret=>exact hK _ _ _ _ nQ hQ
   |panic ch=>exact hK _ _ _ _ nQ hQ
   |outgrown=>exact hK _ _ _ _ nQ hQ
  ·cases hs
 |exit id=>
  intro sc hs hok Q K s a w hA hw hK
  cases hs
  exact xL hm _ _ rfl hok Q K s a w hA hw hK
 |ret=>
  intro sc hs hok Q K s a w hA hw hK
  cases hs
  exact xL hm _ _ rfl hok Q K s a w hA hw hK
 |_=>intro sc hs;simp [gV] at hs
end
theorem ahu {P:Program} {Q:Exit->St->Prop} {c:eY} {s:St} (h:go P [.code c] Q s.n s.t s.h):iq P c Q s:=by
 have e:(fun (e:Exit) (s':St)=>match e with
  | .normal=>jh P Q [] s'
  | .exit id=>jh.gW P Q id [] s'
  |e=>Q e s')=Q:=by funext e s';cases e<;>rfl
 have h':iq P c (fun (e:Exit) (s':St)=>match e with
  | .normal=>jh P Q [] s'
  | .exit id=>jh.gW P Q id [] s'
  |e=>Q e s') s:=h
 rw [e] at h'
 exact h'
theorem Fn.aT {P:Program} {f:FuncId} {sc:eY} {res:List iJ} {nt:Nat} (p:List aG->Bool) (hok:aA P f sc res nt) {xs:List AV} {bs:List (List AV)} {r:AV} {bs':List (List AV)} {es:List Ob}
 (hn:xs.length<=nt) (hgo:go P [.code (mark p sc)] (H8 res r bs' es) 8 (pJ 0 xs) (gG 0 bs)):Fn P f xs bs r bs' es:=by
 obtain ⟨⟨fn,c,hf,hnm,hb,hs,hres,hr4,rfl⟩,hoc,hm⟩:=hok
 refine ⟨⟨fn,hf,hnm,by rw [hb];rfl⟩,fun C ρ U w vals hr hU hv=> ?_⟩
 let C1:Ctx:={C with nt:=fn.ntmps}
 have hr1:HR C1 ρ U (gG 0 bs) w:=⟨hr.hp,hr.hd,hr.inj,hr.os,hr.tape,hr.output,hr.size,hr.old,hr.kL,hr.dJ,hr.fix⟩
 refine calls_of_wp hf hb (aht (p:=p) (C:=C1) hm c sc hs hoc _ _ ⟨8,pJ 0 xs,gG 0 bs⟩ _ w ⟨ρ,U,⟨hr1,fun k x hk=> ?_,rfl,?_⟩,fun b hb=>by have:=hU b hb;simp only;omega⟩ (ahu hgo) fun e s a w' hA hQ=> ?_)
 ·rw [H7] at hk
  simp only [Nat.zero_le,if_true,Nat.sub_zero] at hk
  have hlt:k<vals.size:=by rw [<-hv.1];exact (List.getElem?_eq_some_iff.1 hk).1
  refine ⟨vals[k],?_,hv.2 k x _ hk (Array.getElem?_eq_getElem hlt)⟩
  simp [Array.getElem?_append,hlt]
 ·have:=hv.1
  simp only [Array.size_append,Array.size_replicate]
  show _=fn.ntmps
  omega
 ·have fin:Fin res r bs' es s.t s.h->a.defers=[]/\∃ v,(results fn a.tmps).run P w'= .ok v w'/\∃ v_1 ρ' U',Ending.returned v=Ending.returned v_1/\HR C ρ' U' (outs bs' es) w'/\VR w' (aP C ρ' w') ρ' U' r v_1:=fun hF=>by
   obtain ⟨S,N,ys,h1,h2,h3,h4,h5⟩:=hF
   obtain ⟨ρ1,U1,hS,_⟩:=hA
   obtain ⟨vs,h6,h7,h8,h9⟩:=Cf (P:=P) hS.hr hS.tm fn.results.toList res ys hres h1
   refine ⟨hS.defers,_,O3 a.tmps w' rfl h6 hr4 h8,_,dH ρ1 S N,jN S N,rfl,?_,?_⟩
   ·have:=xO hS.hr h2 h3 h4
    exact ⟨this.hp,this.hd,this.inj,this.os,this.tape,this.output,this.size,this.old,this.kL,this.dJ,this.fix⟩
   ·exact lD hS.hr (O4 (by omega) h9) r h5
  cases e with
  |normal=>exact fin hQ
  |ret=>exact fin hQ
  |exit i=>exact hQ.elim
  |goto l=>exact hQ.elim
  |panic ch=>exact hQ.elim
  |outgrown=>exact hQ.elim
section
variable {P:Program} {k:List It} {Q:Exit->St->Prop} {n:Nat} {t:List (Nat×AV)} {h:List (Nat×Ob)} {p:List aG->Bool}
def Ik (P:Program) (b:Bool) (ops:List aG) (d:Bool) (k:List It) (Q:Exit->St->Prop) (n:Nat) (t:List (Nat×AV)) (h:List (Nat×Ob)):Prop:=
 go P (.code (bif b then .seq Co (.region ops d) else .region ops d)::k) Q n t h
def vS (P:Program) (k:List It) (Q:Exit->St->Prop) (n:Nat) (t:List (Nat×AV)) (h:List (Nat×Ob)):Prop:=go P (.code Co::k) Q n t h
theorem ahv (ops:List aG) (d:Bool):go P (.code (mark p (.region ops d))::k) Q n t h=Ik P (p ops) ops d k Q n t h:=(rfl)
theorem ahw (ops:List aG) (d:Bool):Ik P false ops d k Q n t h=go P (.code (.region ops d)::k) Q n t h:=(rfl)
theorem ahx (ops:List aG) (d:Bool):Ik P true ops d k Q n t h=vS P (.code (.region ops d)::k) Q n t h:=by
 unfold Ik vS
 exact O6 _ _
theorem ahy (a b:eY):go P (.code (mark p (.seq a b))::k) Q n t h=go P (.code (mark p a):: .code (mark p b)::k) Q n t h:=O6 _ _
theorem ahz (c:Operand) (x y:eY):go P (.code (mark p (.cond c x y))::k) Q n t h=xR P (ev t c) (mark p x) (mark p y) k Q n t h:=(rfl)
theorem ahA (id:Nat) (c:eY):go P (.code (mark p (.block id c))::k) Q n t h=go P (.code (mark p c):: .blk id::k) Q n t h:=HZ _ _
theorem ahB (c:eY):go P (.code (mark p (.loop c))::k) Q n t h=go P (.code (.loop (mark p c))::k) Q n t h:=(rfl)
theorem ahC:go P (.code (mark p .skip)::k) Q n t h=go P k Q n t h:=(rfl)
theorem ahD (id:Nat):go P (.code (mark p (.exit id))::k) Q n t h=gW P id k Q n t h:=(rfl)
theorem ahE:go P (.code (mark p .ret)::k) Q n t h=Q .ret ⟨n,t,h⟩:=(rfl)
theorem Il {t':List (Nat×AV)} {h':List (Nat×Ob)} (hw:Wk ⟨n,t,h⟩ ⟨n,t',h'⟩) (hk:go P k Q n t' h'):vS P k Q n t h:=by
 unfold vS Co
 rw [HZ]
 refine go_loop (fun _:Unit=>⟨n,t',h'⟩) (fun _=>0) () hw fun _ B hB=> ?_
 rw [O7,O9,O8,if_pos rfl]
 exact hk
theorem um (hk:go P k Q n t h):vS P k Q n t h:=by
 unfold vS Co
 rw [HZ]
 refine go_loop (fun _:Unit=>⟨n,t,h⟩) (fun _=>0) () (fun C ρ U a w hR hU=>⟨ρ,U,hR,hU⟩) fun _ B hB=> ?_
 rw [O7,O9,O8,if_pos rfl]
 exact hk
end
attribute [go_sem] ahv ahw ahx ahy ahz ahA ahB ahC ahD ahE
def rW:List Nat->Nat->Bool
 |[],_=>false
 |a::l,b=>(a==b)||rW l b
theorem Cq:∀ (l:List Nat) (b:Nat),rW l b=true↔b ∈ l
 |[],b=>by simp [rW]
 |a::l,b=>by
  simp only [rW,Bool.or_eq_true,beq_iff_eq,Cq l b,List.mem_cons]
  exact ⟨fun h=>h.imp Eq.symm id,fun h=>h.imp Eq.symm id⟩
def Po (b sz off len:Nat):Option Ob->AV
 |some (.row _ _ xs)=> .sl sz ((xs.drop off).take len)
 |_=> .own b sz off len
mutual
def pO (h:List (Nat×Ob)):AV->AV
 | .own b sz off len=>Po b sz off len (get h b)
 | .agg cs=> .agg (rX h cs)
 | .aF cs=> .aF (rX h cs)
 | .fn f cs=> .fn f (rX h cs)
 | .v x=> .v x
 | .sl sz xs=> .sl sz xs
 | .ptr b j=> .ptr b j
 | .rp b sz i j=> .rp b sz i j
 | .dG cs j=> .dG cs j
 | .mp b=> .mp b
def rX (h:List (Nat×Ob)):List AV->List AV
 |[]=>[]
 |c::cs=>pO h c::rX h cs
end
def Pp (sz off len:Nat):Option Ob->Prop
 |some (.row _ sz' xs)=>sz=sz'/\off+len<=xs.length
 |_=>False
def Zm:Option Ob->Prop
 |some (.box _)=>True
 |_=>False
mutual
def Ag (h:List (Nat×Ob)):AV->Prop
 | .own b sz off len=>Pp sz off len (get h b)
 | .agg cs=>vT h cs
 | .aF cs=>vT h cs
 | .fn _ cs=>vT h cs
 | .v _=>True
 | .sl _ _=>True
 | .ptr b _=>Zm (get h b)
 | .rp _ _ _ _=>False
 | .dG _ _=>True
 | .mp _=>False
def vT (h:List (Nat×Ob)):List AV->Prop
 |[]=>True
 |c::cs=>Ag h c/\vT h cs
end
def Pq:Ob->Bool
 | .box _=>true
 |_=>false
def gy:List Nat->List (Nat×Ob)->List Nat
 |_,[]=>[]
 |s,(k,o)::l=>if rW s k=true then gy s l else if Pq o=true then k::gy (k::s) l else gy (k::s) l
def Im (h:List (Nat×Ob)) (k:Nat) (r:List (Nat×Ob)):Option Ob->List (Nat×Ob)
 |some (.box cs)=>(k,.box (rX h cs))::r
 |_=>r
def rY (h:List (Nat×Ob)):List Nat->List (Nat×Ob)
 |[]=>[]
 |k::l=>Im h k (rY h l) (get h k)
def Zn (h:List (Nat×Ob)):Option Ob->Prop
 |some (.box cs)=>vT h cs
 |_=>True
def Ah (h:List (Nat×Ob)):List Nat->Prop
 |[]=>True
 |k::l=>Zn h (get h k)/\Ah h l
def Zo (sz:Nat):Option Ob->Bool
 |some (.row _ sz' _)=>sz==sz'
 |_=>false
def Zp:Option Ob->Bool
 |some (.box _)=>true
 |_=>false
def kp (h:List (Nat×Ob)):AV->Bool
 | .v _=>true
 | .sl _ _=>true
 | .own b sz _ _=>Zo sz (get h b)
 | .ptr b _=>Zp (get h b)
 |_=>false
def uo (h:List (Nat×Ob)):List Nat->List (Nat×AV)->List (Nat×AV)
 |_,[]=>[]
 |s,(k,x)::l=>if rW s k=true then uo h s l else if kp h x=true then (k,pO h x)::uo h (k::s) l else uo h (k::s) l
def vU (h:List (Nat×Ob)):List Nat->List (Nat×AV)->Prop
 |_,[]=>True
 |s,(k,x)::l=>if rW s k=true then vU h s l else if kp h x=true then Ag h x/\vU h (k::s) l else vU h (k::s) l
def kr (l:List Nat):List (Nat×Nat):=l.map fun k=>(k,k)
theorem Zq (l:List Nat) (b:Nat):get (kr l) b=if b ∈ l then some b else none:=by
 induction l with
 |nil=>rfl
 |cons a l ih=>
  simp only [kr,List.map_cons,get] at ih ⊢
  by_cases e:a=b
  ·subst e;simp
  ·rw [if_neg e,ih]
   simp [Ne.symm e]
theorem Io (h0:List (Nat×Ob)):∀ (l:List (Nat×Ob)) (s:List Nat),(∀ k,k ∉ s->get h0 k=get l k)->(∀ b,b ∈ gy s l↔(b ∉ s/\∃ cs,get h0 b=some (.box cs)))/\(gy s l).Nodup
 |[],s,hh=>by
  refine ⟨fun b=>⟨fun h=>by simp [gy] at h,fun ⟨h1,cs,h2⟩=> ?_⟩,by simp [gy]⟩
  rw [hh b h1] at h2
  cases h2
 |(k,o)::l,s,hh=>by
  simp only [gy]
  by_cases hm:rW s k=true
  ·rw [if_pos hm]
   have hk:=(Cq s k).1 hm
   refine Io h0 l s fun b hb=> ?_
   rw [hh b hb,jd]
   intro e;subst e;exact hb hk
  ·rw [if_neg hm]
   have hk:k ∉ s:=fun h=>hm ((Cq s k).2 h)
   have ih:=Io h0 l (k::s) fun b hb=>by
    have hb:=fun q=>hb (List.mem_cons.2 q)
    rw [hh b (fun h=>hb (.inr h)),jd]
    intro e;exact hb (.inl e.symm)
   have h0k:get h0 k=some o:=by rw [hh k hk,nG]
   by_cases hb:Pq o=true
   ·rw [if_pos hb]
    have ho:∃ cs,o= .box cs:=by cases o<;>first|exact ⟨_,rfl⟩|cases hb
    obtain ⟨cs,rfl⟩:=ho
    refine ⟨fun b=> ?_,List.nodup_cons.2 ⟨fun h=>((ih.1 k).1 h).1 (by simp),ih.2⟩⟩
    rw [List.mem_cons,ih.1 b]
    constructor
    ·rintro (rfl|⟨h1,h2⟩)
     ·exact ⟨hk,_,h0k⟩
     ·exact ⟨fun h=>h1 (List.mem_cons_of_mem _ h),h2⟩
    ·rintro ⟨h1,h2⟩
     by_cases e:b=k
     ·exact .inl e
     ·exact .inr ⟨fun h=>by rcases List.mem_cons.1 h with h|h;exact e h;exact h1 h,h2⟩
   ·rw [if_neg hb]
    refine ⟨fun b=> ?_,ih.2⟩
    rw [ih.1 b]
    constructor
    ·rintro ⟨h1,h2⟩
     exact ⟨fun h=>h1 (List.mem_cons_of_mem _ h),h2⟩
    ·rintro ⟨h1,cs,h2⟩
     refine ⟨fun h=> ?_,cs,h2⟩
     rcases List.mem_cons.1 h with h|h
     ·subst h;rw [h0k] at h2;cases h2;exact hb rfl
     ·exact h1 h
theorem Ai (h:List (Nat×Ob)) (b:Nat):b ∈ gy [] h↔∃ cs,get h b=some (.box cs):=by
 rw [(Io h h [] fun _ _=>rfl).1 b];simp
section
variable (h:List (Nat×Ob))
mutual
theorem Zr:∀ (x:AV),Ag h x->rv h (kr (gy [] h)) [] (pO h x) x
 | .own b sz off len,hp=>by
  simp only [Ag] at hp
  simp only [pO]
  cases hg:get h b with
  |none=>rw [hg] at hp;exact hp.elim
  |some o=>
   rw [hg] at hp
   cases o with
   |row e sz' xs=>
    simp only [Pp] at hp
    simp only [Po,rv,hg]
    refine ⟨fun hb=> ?_,trivial,hp.1,hp.2,trivial⟩
    have:b ∈ gy [] h:=by
     simp only [kr,List.map_map,List.mem_map] at hb
     obtain ⟨k,h1,rfl⟩:=hb
     exact h1
    obtain ⟨cs,h2⟩:=(Ai h b).1 this
    rw [hg] at h2
    cases h2
   |_=>exact hp.elim
 | .agg cs,hp=>by simp only [pO,rv];exact Cr cs hp
 | .aF cs,hp=>by simp only [pO,rv];exact Cr cs hp
 | .fn f cs,hp=>by simp only [pO,rv];exact ⟨trivial,Cr cs hp⟩
 | .v x,hp=>by simp only [pO,rv]
 | .sl sz xs,hp=>by simp only [pO,rv,and_self]
 | .ptr b j,hp=>by
  simp only [Ag] at hp
  simp only [pO,rv,and_true]
  rw [Zq,if_pos]
  rw [Ai]
  cases hg:get h b with
  |none=>rw [hg] at hp;exact hp.elim
  |some o=>rw [hg] at hp;cases o<;>first|exact ⟨_,rfl⟩|exact hp.elim
 | .rp b sz i j,hp=>hp.elim
 | .dG cs j,hp=>by simp only [pO,rv,and_self]
 | .mp b,hp=>hp.elim
theorem Cr:∀ (cs:List AV),vT h cs->au h (kr (gy [] h)) [] (rX h cs) cs
 |[],_=>by simp only [rX,au]
 |c::cs,hp=>by simp only [rX,au];exact ⟨Zr c hp.1,Cr cs hp.2⟩
end
theorem Zt:∀ (l:List Nat) (b:Nat),(∀ k ∈ l,∃ cs,get h k=some (.box cs))->get (rY h l) b=if b ∈ l then (match get h b with
 |some (.box cs)=>some (.box (rX h cs))
 |_=>none) else none
 |[],b,_=>rfl
 |k::l,b,hk=>by
  obtain ⟨cs,hc⟩:=hk k (by simp)
  have ih:=Zt l b fun j hj=>hk j (List.mem_cons_of_mem _ hj)
  simp only [rY,hc,Im,get]
  by_cases e:k=b
  ·subst e;simp [hc]
  ·rw [if_neg e,ih]
   have:(b ∈ k::l)=(b ∈ l):=by simp [Ne.symm e]
   simp only [this]
theorem Zu:∀ (l:List Nat),Ah h l->∀ b ∈ l,∀ cs,get h b=some (.box cs)->vT h cs
 |[],_,b,hb,_,_=>by cases hb
 |k::l,hp,b,hb,cs,hc=>by
  rcases List.mem_cons.1 hb with rfl|hb
  ·have:=hp.1;rw [hc] at this;exact this
  ·exact Zu l hp.2 b hb cs hc
theorem Zv:∀ (l:List Nat),(∀ k ∈ l,∃ cs,get h k=some (.box cs))->(rY h l).map Prod.fst=l
 |[],_=>rfl
 |k::l,hk=>by
  obtain ⟨cs,hc⟩:=hk k (by simp)
  simp only [rY,hc,Im,List.map_cons,Zv l fun j hj=>hk j (List.mem_cons_of_mem _ hj)]
theorem Zw:∀ (l:List Nat),(∀ k ∈ l,k ∈ gy [] h)->Ah h (gy [] h)->cZ h (kr (gy [] h)) [] (rY h (gy [] h)) (kr l)
 |[],_,_=>by simp only [kr,List.map_nil,cZ]
 |k::l,hl,hp=>by
  have hk:=hl k (by simp)
  obtain ⟨cs,hc⟩:=(Ai h k).1 hk
  have ih:=Zw l (fun j hj=>hl j (List.mem_cons_of_mem _ hj)) hp
  simp only [kr,List.map_cons,cZ] at ih ⊢
  refine ⟨?_,ih⟩
  have h1:=Zt h (gy [] h) k fun j hj=>(Ai h j).1 hj
  rw [if_pos hk,hc] at h1
  simp only at h1
  simp only [h1,hc,bO]
  exact Cr h cs (Zu h _ hp k hk cs hc)
theorem Ip (t0:List (Nat×AV)):∀ (l:List (Nat×AV)) (s:List Nat),(∀ k,k ∉ s->get t0 k=get l k)->vU h s l->eG h (kr (gy [] h)) [] t0 (uo h s l)
 |[],s,_,_=>by simp only [uo,eG]
 |(k,x)::l,s,hh,hp=>by
  simp only [vU] at hp
  simp only [uo]
  by_cases hm:rW s k=true
  ·rw [if_pos hm] at hp ⊢
   have hk:=(Cq s k).1 hm
   refine Ip t0 l s (fun b hb=> ?_) hp
   rw [hh b hb,jd]
   intro e;subst e;exact hb hk
  ·rw [if_neg hm] at hp ⊢
   have hk:k ∉ s:=fun h=>hm ((Cq s k).2 h)
   have Aj:∀ b,b ∉ k::s->get t0 b=get l b:=fun b hb=>by
    have hb:=fun q=>hb (List.mem_cons.2 q)
    rw [hh b (fun h=>hb (.inr h)),jd]
    intro e;exact hb (.inl e.symm)
   by_cases hx:kp h x=true
   ·rw [if_pos hx] at hp ⊢
    simp only [eG]
    refine ⟨?_,Ip t0 l (k::s) Aj hp.2⟩
    rw [hh k hk,nG]
    exact Zr h x hp.1
   ·rw [if_neg hx] at hp ⊢
    exact Ip t0 l (k::s) Aj hp
theorem ahF:iD h (kr (gy [] h)) [] (rY h (gy [] h))=true:=by
 have hn:=(Io h h [] fun _ _=>rfl).2
 have e1:(kr (gy [] h)).map Prod.snd=gy [] h:=by simp [kr,Function.comp_def]
 have e2:(kr (gy [] h)).map Prod.fst=gy [] h:=by simp [kr,Function.comp_def]
 have hk:∀ b,nS h (kr (gy [] h)) b=true:=fun b=>by
  unfold nS
  split
  ·rename_i cs hc
   rw [Zq,if_pos ((Ai h b).2 ⟨cs,hc⟩)]
   simp
  ·rfl
 unfold iD
 rw [e1,e2,Zv h _ fun j hj=>(Ai h j).1 hj]
 simp [hn,hk]
end
def Cs (n:Nat):List Nat->Bool
 |[]=>true
 |k::l=>Nat.blt k n&&Cs n l
theorem Zx {n:Nat}:∀ {l:List Nat},Cs n l=true->∀ k ∈ l,k<n
 |[],_,k,hk=>by cases hk
 |a::l,h,k,hk=>by
  simp only [Cs,Bool.and_eq_true] at h
  rcases List.mem_cons.1 hk with rfl|hk
  ·have:=h.1;rwa [Nat.blt_eq] at this
  ·exact Zx h.2 k hk
section
variable {P:Program} {k:List It} {Q:Exit->St->Prop} {n:Nat} {t:List (Nat×AV)} {h:List (Nat×Ob)}
theorem Ak {B:List Nat} (hB:gy [] h=B) (hn:Cs n B=true) (hp:Ah h B/\vU h [] t) (hk:go P k Q n (uo h [] t) (rY h B)):vS P k Q n t h:=by
 subst hB
 refine Il (Wk.mk (kr (gy [] h)) [] (ahF h) ?_ (Zw h _ (fun _ h=>h) hp.1) trivial (Ip h t t [] (fun _ _=>rfl) hp.2)) hk
 simp only [kr,List.map_map,List.append_nil,List.all_eq_true,List.mem_map,Function.comp]
 rintro b ⟨c,hc,rfl⟩
 exact decide_eq_true (Zx hn c hc)
end
def Zy:gm->Bool
 | .call _ _=>true
 | .lq _ _ zs _ _=>decide (10<=zs.length)
 |_=>false
def bR:List aG->Bool
 |[]=>false
 |o::l=>Zy o.op||bR l
def Zz:gm->Bool
 | .lq _ _ zs _ _=>decide (10<=zs.length)
 |_=>false
def bY:List aG->Bool
 |[]=>false
 |o::l=>Zz o.op||bY l
attribute [go_sem] Zz bY
attribute [go_sem ↓] reduceIte
attribute [go_sem] Bool.true_or Bool.or_true Bool.false_or Bool.or_false Bool.or_self
attribute [go_sem] rW Po pO rX Pp Zm Ag vT Pq gy Im rY Zn Ah Zo Zp kp uo vU Zy bR
end Go.Eng
namespace Go.Eng
open Go
def Ps (a b:ByteArray):ByteArray:=⟨(a.data.toList++b.data.toList).toArray⟩
theorem ahG (a b:ByteArray):a++b=Ps a b:=by
 obtain ⟨⟨a⟩⟩:=a
 obtain ⟨⟨b⟩⟩:=b
 apply ByteArray.ext
 simp [Ps]
def Pt (s:ByteArray) (l r:Nat):ByteArray:=⟨((s.data.toList.take r).drop l).toArray⟩
theorem ahH (s:ByteArray) (l r:Nat):s.extract l r=Pt s l r:=by
 obtain ⟨⟨s⟩⟩:=s
 apply ByteArray.ext
 simp [Pt,List.extract_eq_take_drop,List.drop_take]
def Ct:BinOp->Value->Value->Option Value
 | .eql,.string a,.string b=>some (.bool (a.data.toList==b.data.toList))
 | .neq,.string a,.string b=>some (.bool (!(a.data.toList==b.data.toList)))
 |op,x,y=>kM op x y
theorem ahI (op:BinOp) (x y:Value):kM op x y=Ct op x y:=by
 unfold Ct
 split<;>simp [kM,ByteArray.toList_eq]
def pQ:BinOp->Value->Value->Option (Bool×Value)
 | .quo,.int k a,.int k' b=>if k=k' then some (decide (b≠0),.int k (k.wrap (a.tdiv b))) else none
 | .rem,.int k a,.int k' b=>if k=k' then some (decide (b≠0),.int k (a.tmod b)) else none
 | .shl,.int k a,.int _ b=>some (decide (0<=b),.int k (k.wrap (a*2 ^ (min b.toNat k.bits))))
 | .shr,.int k a,.int _ b=>some (decide (0<=b),.int k (a.fdiv (2 ^ (min b.toNat k.bits))))
 | .add,.string a,.string b=>some (decide (a.size+b.size<=maxLen),.string (Ps a b))
 |_,_,_=>none
theorem ZA (op:BinOp) (x y:Value):mI op x y=(pQ op x y).map fun p=>(p.1=true,p.2):=by
 unfold mI
 split
 ·simp only [pQ];split<;>simp
 ·simp only [pQ];split<;>simp
 ·simp [pQ]
 ·simp [pQ]
 ·simp [pQ,ahG]
 ·rename_i h1 h2 h3 h4 h5
  unfold pQ
  split
  ·exact (h1 _ _ _ _ rfl rfl rfl).elim
  ·exact (h2 _ _ _ _ rfl rfl rfl).elim
  ·exact (h3 _ _ _ _ rfl rfl rfl).elim
  ·exact (h4 _ _ _ _ rfl rfl rfl).elim
  ·exact (h5 _ _ rfl rfl rfl).elim
  ·rfl
def Al:List Nat->List AV->List AV->Option Bool
 |[],[],[]=>some true
 |0::ks,.v (.int k a)::l,.v (.int k' b)::l'=>if k=k' then (match Al ks l l' with
  |some r=>some ((a==b)&&r)
  |none=>none) else none
 |1::ks,.v (.string a)::l,.v (.string b)::l'=>match Al ks l l' with
  |some r=>some ((a.data.toList==b.data.toList)&&r)
  |none=>none
 |2::ks,.v (.bool a)::l,.v (.bool b)::l'=>match Al ks l l' with
  |some r=>some ((a==b)&&r)
  |none=>none
 |_,_,_=>none
theorem ahJ:∀ (ks:List Nat) (l l':List AV),jF ks l l'=Al ks l l':=by
 intro ks l l'
 induction ks,l,l' using jF.induct<;>simp_all [jF,Al,ByteArray.toList_eq]
def rZ (h:List (Nat×Ob)) (sz:Nat):Option AV->Option (Bool×List (List AV))
 |some (.v (.slice none 0 0))=>some (true,[])
 |some (.sl sz' xs)=>if sz=sz' then some (true,xs) else none
 |some (.own b sz' off len)=>match get h b with
  |some (.row _ dQ xs)=>if sz=sz'/\sz=dQ then some (decide (off+len<=xs.length),(xs.drop off).take len) else none
  |_=>none
 |_=>none
theorem ahK (h:List (Nat×Ob)) (sz:Nat) (x:Option AV):j5 h sz x=(rZ h sz x).map fun p=>(p.1=true,p.2):=by
 unfold j5
 split
 ·simp [rZ]
 ·simp only [rZ];split<;>simp_all
 ·rename_i b sz' off len
  simp only [rZ]
  cases hg:get h b with
  |none=>rfl
  |some o=>
   cases o with
   |row e dQ xs=>simp only;split<;>simp
   |_=>rfl
 ·rename_i h1 h2 h3
  unfold rZ
  split
  ·exact (h1 rfl).elim
  ·exact (h2 _ _ rfl).elim
  ·exact (h3 _ _ _ _ rfl).elim
  ·rfl
def ku (nm:Nat) (t:List (Nat×AV)) (h:List (Nat×Ob)):gm->Option E
 | .bin op x y=>match ev t x,ev t y with
  |some (.v a),some (.v b)=>match Ct op a b with
   |some c=>E.ok (.v c)
   |none=>match pQ op a b with
    |some (p,c)=>some ⟨p=true,.v c,[]⟩
    |none=>none
  |_,_=>none
 | .eqs neg ks x y=>match ev t x,ev t y with
  |some (.agg a),some (.agg b)=>match Al ks a b with
   |some c=>E.ok (.v (.bool (if neg then !c else c)))
   |none=>none
  |_,_=>none
 | .mF x lo hi=>match ev t x,bound t 0 lo with
  |some (.v (.string s)),some l=>match bound t s.size hi with
   |some r=>some ⟨0<=l/\l<=r/\r<=s.size,.v (.string (Pt s l.toNat r.toNat)),[]⟩
   |none=>none
  |_,_=>none
 |op=>aL nm t h op
theorem Iq (nm:Nat) (t:List (Nat×AV)) (h:List (Nat×Ob)) (op:gm):aL nm t h op=ku nm t h op:=by
 cases op
 case bin op x y=>
  simp only [aL,ku]
  rcases ev t x with _|X
  ·rfl
  rcases ev t y with _|Y
  ·cases X<;>rfl
  cases X<;>try rfl
  cases Y<;>try rfl
  rename_i a b
  simp only [ahI,ZA]
  cases Ct op a b with
  |some c=>rfl
  |none=>cases pQ op a b<;>rfl
 case eqs neg ks x y=>simp only [aL,ku,ahJ];rfl
 case mF x lo hi=>simp only [aL,ku,ahH];rfl
 all_goals rfl
def preB (t:List (Nat×AV)) (h:List (Nat×Ob)):gm->Bool
 | .load ag sz x=>match ev t x with
  |some (.rp b _ k j)=>match get h b with
   |some (.row _ dQ xs)=>if ag then decide (k<xs.length/\j+sz<=dQ) else decide (k<xs.length/\j<dQ)
   |_=>false
  |_=>true
 | .store sz x _=>match ev t x with
  |some (.rp b _ k j)=>match get h b with
   |some (.row _ dQ xs)=>decide (k<xs.length/\j+sz<=dQ)
   |_=>false
  |_=>true
 | .bin op x y=>match ev t x,ev t y with
  |some (.v a),some (.v b)=>match kM op a b with
   |some _=>true
   |none=>match pQ op a b with
    |some (p,_)=>p
    |none=>false
  |_,_=>false
 | .mE x=>match rZ h 1 (ev t x) with
  |some (p,_)=>p
  |none=>false
 | .nH _ _ bytes _ l c=>match ev t l,ev t c with
  |some (.v (.int _ n)),some (.v (.int _ m))=>decide (0<=n/\n=m/\n*bytes<=140737488355328/\n<=9223372036854775807)
  |_,_=>false
 | .app _ sz bytes _ s x=>match ev t s,rZ h sz (ev t x) with
  |some (.v (.slice none 0 0)),some (p,news)=>p&&decide (news.length*bytes<=140737488355328/\news.length<=maxLen)
  |some (.fn 2000000 [.sl _ xs]),some (p,news)=>if 0<news.length then p&&decide ((xs.length+news.length)*bytes<=140737488355328/\xs.length+news.length<=maxLen) else p
  |some (.own b _ off len),some (p,news)=>match get h b with
   |some (.row _ _ xs)=>if off+len+news.length<=xs.length then p else p&&decide ((len+news.length)*bytes<=140737488355328/\len+news.length<=maxLen/\off+len<=xs.length)
   |_=>false
  |_,_=>false
 | .slice _ x lo hi (some m)=>match hi with
  |some y=>match ev t x,bound t 0 lo,ev t y,ev t m with
   |some (.sl _ xs),some l,some (.v (.int _ r)),some (.v (.int _ c))=>decide (l=0/\r=c/\r=xs.length)
   |some (.v (.slice none 0 0)),some l,some (.v (.int _ r)),some (.v (.int _ c))=>decide (l=0/\r=0/\c=0)
   |some (.own _ _ _ len),some l,some (.v (.int _ r)),some (.v (.int _ c))=>decide (0<=l/\l<=r/\r<=c/\c<=len)
   |_,_,_,_=>false
  |none=>false
 | .slice sz x lo hi none=>match ev t x,bound t 0 lo with
  |some (.sl _ xs),some l=>match bound t xs.length hi with
   |some r=>decide (0<=l/\l<=r/\r<=xs.length)
   |none=>false
  |some (.own b _ off len),some l=>match get h b,bound t len hi with
   |some (.row _ dQ xs),some r=>decide (0<=l/\l<=r/\(r<=len\/(0<sz/\sz=dQ/\off+r.toNat<=xs.length)))
   |_,_=>false
  |some (.v (.slice none 0 0)),some l=>match bound t 0 hi with
   |some r=>decide (l=0/\r=0)
   |none=>false
  |_,_=>false
 | .mF x lo hi=>match ev t x,bound t 0 lo with
  |some (.v (.string s)),some l=>match bound t s.size hi with
   |some r=>decide (0<=l/\l<=r/\r<=s.size)
   |none=>false
  |_,_=>false
 | .idxs x i=>match ev t x,ev t i with
  |some (.v (.string s)),some (.v (.int _ n))=>decide (0<=n/\n<s.size)
  |_,_=>false
 | .idx ag len sz x i=>match ev t x,ev t i with
  |some (.agg cs),some (.v (.int _ n))=>if ag then decide (0<=n/\n<len/\n.toNat*sz+sz<=cs.length) else decide (0<=n/\n<len)
  |_,_=>false
 | .nK _ _ bytes _ _ x=>match ev t x with
  |some (.v (.int _ n))=>decide (0<n/\n*bytes<=140737488355328/\n<=9223372036854775807)
  |_=>false
 | .nL _ _ x=>match ev t x with
  |some (.own b _ off len)=>match get h b with
   |some (.row _ _ xs)=>decide (off+len<=xs.length)
   |_=>false
  |_=>false
 | .copy sz d x=>match ev t d,rZ h sz (ev t x) with
  |some (.own b _ off len),some (p,_)=>match get h b with
   |some (.row _ _ xs)=>p&&decide (off+len<=xs.length)
   |_=>false
  |_,_=>false
 | .lu _ x=>match ev t x with
  |some (.rp b _ k _)=>match get h b with
   |some (.row _ _ xs)=>decide (k<xs.length)
   |_=>false
  |_=>true
 | .nI _ x i=>match ev t x,ev t i with
  |some (.sl _ xs),some (.v (.int _ n))=>decide (0<=n/\n<xs.length)
  |some (.own _ _ _ len),some (.v (.int _ n))=>decide (0<=n/\n<len)
  |_,_=>false
 | .nJ len _ x i=>match ev t x,ev t i with
  |some (.ptr _ _),some (.v (.int _ n))=>decide (0<=n/\n<len)
  |_,_=>false
 |_=>true
theorem Cu {h:List (Nat×Ob)} {sz:Nat} {x:Option AV} {p:Prop} {xs:List (List AV)} (e:j5 h sz x=some (p,xs)):∃ q:Bool,rZ h sz x=some (q,xs)/\(q=true->p):=by
 rw [ahK] at e
 cases hc:rZ h sz x with
 |none=>rw [hc] at e;cases e
 |some r=>
  rw [hc] at e
  obtain ⟨q,ys⟩:=r
  simp only [Option.map_some,Option.some.injEq,Prod.mk.injEq] at e
  obtain ⟨rfl,rfl⟩:=e
  exact ⟨q,rfl,fun h=>h⟩
theorem ahL {op:BinOp} {a b:Value} {p:Prop} {c:Value} (e:mI op a b=some (p,c)):∃ q:Bool,pQ op a b=some (q,c)/\(q=true->p):=by
 rw [ZA] at e
 cases hc:pQ op a b with
 |none=>rw [hc] at e;cases e
 |some r=>
  rw [hc] at e
  obtain ⟨q,ys⟩:=r
  simp only [Option.map_some,Option.some.injEq,Prod.mk.injEq] at e
  obtain ⟨rfl,rfl⟩:=e
  exact ⟨q,rfl,fun h=>h⟩
set_option maxHeartbeats 4000000 in
theorem Pv {nm:Nat} {t:List (Nat×AV)} {h:List (Nat×Ob)} {op:gm} {e:E} (he:aL nm t h op=some e) (hp:preB t h op=true):e.pre:=by
 cases op
 case bin op x y=>
  simp only [aL,E.ok] at he
  split at he
  ·rename_i a b h1 h2
   split at he
   ·cases he;trivial
   ·rename_i hn
    split at he
    ·rename_i p c hs
     cases he
     obtain ⟨q,h3,h4⟩:=ahL hs
     simp only [preB,h1,h2,hn,h3] at hp
     exact h4 hp
    ·cases he
  ·cases he
 case mE x=>
  simp only [aL,E.ok] at he
  split at he
  ·rename_i p xs h1
   split at he
   ·cases he
    obtain ⟨q,h3,h4⟩:=Cu h1
    simp only [preB,h3] at hp
    exact h4 hp
   ·cases he
  ·cases he
 case app ty sz bytes zs x y=>
  simp only [aL,E.ok] at he
  split at he
  ·rename_i p news h1 h2
   cases he
   obtain ⟨q,h3,h4⟩:=Cu h2
   simp only [preB,h1,h3,Bool.and_eq_true,decide_eq_true_eq] at hp
   exact ⟨h4 hp.1,hp.2⟩
  ·rename_i sz' xs p news h1 h2
   split at he
   ·obtain ⟨q,h3,h4⟩:=Cu h2
    split at he
    ·rename_i hpos
     cases he
     simp only [preB,h1,h3,if_pos hpos,Bool.and_eq_true,decide_eq_true_eq] at hp
     exact ⟨h4 hp.1,hp.2⟩
    ·rename_i hpos
     cases he
     simp only [preB,h1,h3,if_neg hpos] at hp
     exact h4 hp
   ·cases he
  ·rename_i b sz' off len p news h1 h2
   split at he
   ·rename_i e' dQ xs hg
    split at he
    ·obtain ⟨q,h3,h4⟩:=Cu h2
     split at he
     ·rename_i hrm
      cases he
      simp only [preB,h1,h3,hg,if_pos hrm] at hp
      exact h4 hp
     ·rename_i hrm
      cases he
      simp only [preB,h1,h3,hg,if_neg hrm,Bool.and_eq_true,decide_eq_true_eq] at hp
      exact ⟨h4 hp.1,hp.2⟩
    ·cases he
   ·cases he
  ·cases he
 case copy sz d x=>
  simp only [aL] at he
  split at he
  ·rename_i b sz' off len p ys h1 h2
   split at he
   ·rename_i e' dQ xs hg
    split at he
    ·simp only [Option.some.injEq] at he;subst he
     obtain ⟨q,h3,h4⟩:=Cu h2
     simp only [preB,h1,h3,hg,Bool.and_eq_true,decide_eq_true_eq] at hp
     exact ⟨h4 hp.1,hp.2⟩
    ·cases he
   ·cases he
  ·cases he
 case nH ty sz bytes zs l c=>
  simp only [aL,E.ok] at he
  split at he
  ·rename_i k n k' m h1 h2
   cases he
   simp only [preB,h1,h2,decide_eq_true_eq] at hp
   exact hp
  ·cases he
 case slice sz x lo hi mx=>
  cases mx with
  |none=>simp only [aL,E.ok] at he;(repeat' split at he)<;>simp_all [preB]<;>(subst he;simp_all)
  |some m=>
   cases hi with
   |none=>simp only [preB] at hp;cases hp
   |some y=>
    simp only [aL] at he
    simp only [preB] at hp
    split at hp
    ·rename_i sz' xs l k r k' c h1 h2 h3 h4
     simp only [h1,h2,h3,h4] at he
     split at he
     ·simp only [Option.some.injEq] at he;subst he;simpa only [decide_eq_true_eq] using hp
     ·cases he
    ·rename_i l k r k' c h1 h2 h3 h4
     simp only [h1,h2,h3,h4,Option.some.injEq] at he
     subst he
     simpa only [decide_eq_true_eq] using hp
    ·rename_i b sz' off len l k r k' c h1 h2 h3 h4
     simp only [h1,h2,h3,h4] at he
     split at he
     ·split at he
      ·simp_all only [Option.some.injEq,decide_eq_true_eq]
       subst he
       simp_all
      ·cases he
     ·cases he
    ·cases hp
 all_goals (simp only [aL,E.ok] at he;(repeat' split at he)<;>simp_all [preB]<;>(subst he;simp_all))
def r9 (S:List (Nat×Nat)) (k b:Nat):Bool:=match get S k with
 |some c=>c==b
 |none=>false
theorem Ir {S:List (Nat×Nat)} {k b:Nat} (h:r9 S k b=true):get S k=some b:=by
 unfold r9 at h
 split at h
 ·rename_i c hc;rw [hc,eq_of_beq h]
 ·cases h
mutual
def tr (h:List (Nat×Ob)) (S inv:List (Nat×Nat)):AV->Option AV
 | .own b sz off len=>match get inv b with
  |some k=>bif r9 S k b then some (.own k sz off len) else none
  |none=>bif (S.map Prod.snd).contains b then none else match get h b with
   |some (.row _ dQ xs)=>if sz=dQ/\off+len<=xs.length then some (.sl sz ((xs.drop off).take len)) else none
   |some (.box cs)=>if 4<=b/\off=0/\cs.length=len*sz/\dx cs=true/\mG cs=true then some (.sl sz (mM sz len cs)) else none
   |_=>none
 | .rp b sz i j=>match get inv b with
  |some k=>bif r9 S k b then some (.rp k sz i j) else none
  |none=>bif (S.map Prod.snd).contains b then none else match get h b with
   |some (.row _ dQ xs)=>if sz=dQ/\i<xs.length then some (.dG (nth xs i) j) else none
   |_=>none
 | .ptr b j=>match get inv b with
  |some k=>bif r9 S k b then some (.ptr k j) else none
  |none=>none
 | .mp b=>match get inv b with
  |some k=>bif r9 S k b then some (.mp k) else none
  |none=>none
 | .agg cs=>match jQ h S inv cs with
  |some ys=>some (.agg ys)
  |none=>none
 | .aF cs=>match jQ h S inv cs with
  |some ys=>some (.aF ys)
  |none=>none
 | .fn f cs=>match jQ h S inv cs with
  |some ys=>some (.fn f ys)
  |none=>none
 | .v a=>some (.v a)
 | .sl sz xs=>some (.sl sz xs)
 | .dG cs j=>some (.dG cs j)
def jQ (h:List (Nat×Ob)) (S inv:List (Nat×Nat)):List AV->Option (List AV)
 |[]=>some []
 |c::cs=>match tr h S inv c with
  |some y=>match jQ h S inv cs with
   |some ys=>some (y::ys)
   |none=>none
  |none=>none
end
theorem Pw {S:List Nat} {b:Nat} (h:S.contains b=false):b ∉ S:=by
 intro hm
 rw [List.contains_iff_mem.2 hm] at h
 cases h
mutual
theorem Am {h:List (Nat×Ob)} {S inv:List (Nat×Nat)}:∀ (x y:AV),tr h S inv x=some y->rv h S [] y x
 | .own b sz off len,y,e=>by
  simp only [tr] at e
  split at e
  ·rename_i k hk
   cases hs:r9 S k b with
   |false=>rw [hs] at e;cases e
   |true=>rw [hs] at e;simp only [cond_true,Option.some.injEq] at e;subst e;simp only [rv,Ir hs,and_self]
  ·cases hc:(S.map Prod.snd).contains b with
   |true=>rw [hc] at e;cases e
   |false=>
    rw [hc] at e
    simp only [cond_false] at e
    split at e
    ·rename_i x1 dQ xs hg
     split at e
     ·rename_i h1
      simp only [Option.some.injEq] at e
      subst e
      simp only [rv,hg]
      simp only [h1.1,h1.2,and_true,true_and]
      exact Pw hc
     ·cases e
    ·rename_i cs hg
     split at e
     ·rename_i h1
      simp only [Option.some.injEq] at e
      subst e
      simp only [rv,hg]
      exact ⟨Pw hc,trivial,h1.1,h1.2.1,h1.2.2.1,h1.2.2.2.1,h1.2.2.2.2,trivial⟩
     ·cases e
    ·cases e
 | .rp b sz i j,y,e=>by
  simp only [tr] at e
  split at e
  ·rename_i k hk
   cases hs:r9 S k b with
   |false=>rw [hs] at e;cases e
   |true=>rw [hs] at e;simp only [cond_true,Option.some.injEq] at e;subst e;simp only [rv,Ir hs,and_self]
  ·cases hc:(S.map Prod.snd).contains b with
   |true=>rw [hc] at e;cases e
   |false=>
    rw [hc] at e
    simp only [cond_false] at e
    split at e
    ·rename_i x1 dQ xs hg
     split at e
     ·rename_i h1
      simp only [Option.some.injEq] at e
      subst e
      simp only [rv,hg]
      simp only [h1.1,h1.2,and_true,true_and]
      exact Pw hc
     ·cases e
    ·cases e
 | .ptr b j,y,e=>by
  simp only [tr] at e
  split at e
  ·rename_i k hk
   cases hs:r9 S k b with
   |false=>rw [hs] at e;cases e
   |true=>rw [hs] at e;simp only [cond_true,Option.some.injEq] at e;subst e;simp only [rv,Ir hs,and_self]
  ·cases e
 | .mp b,y,e=>by
  simp only [tr] at e
  split at e
  ·rename_i k hk
   cases hs:r9 S k b with
   |false=>rw [hs] at e;cases e
   |true=>rw [hs] at e;simp only [cond_true,Option.some.injEq] at e;subst e;simp only [rv,Ir hs]
  ·cases e
 | .agg cs,y,e=>by
  simp only [tr] at e
  split at e
  ·rename_i ys hy;cases e;simp only [rv];exact pR cs ys hy
  ·cases e
 | .aF cs,y,e=>by
  simp only [tr] at e
  split at e
  ·rename_i ys hy;cases e;simp only [rv];exact pR cs ys hy
  ·cases e
 | .fn f cs,y,e=>by
  simp only [tr] at e
  split at e
  ·rename_i ys hy;cases e;simp only [rv,true_and];exact pR cs ys hy
  ·cases e
 | .v a,y,e=>by simp only [tr,Option.some.injEq] at e;subst e;simp only [rv]
 | .sl sz xs,y,e=>by simp only [tr,Option.some.injEq] at e;subst e;simp only [rv,and_self]
 | .dG cs j,y,e=>by simp only [tr,Option.some.injEq] at e;subst e;simp only [rv,and_self]
theorem pR {h:List (Nat×Ob)} {S inv:List (Nat×Nat)}:∀ (xs ys:List AV),jQ h S inv xs=some ys->au h S [] ys xs
 |[],ys,e=>by simp only [jQ,Option.some.injEq] at e;subst e;simp only [au]
 |c::cs,ys,e=>by
  simp only [jQ] at e
  split at e
  ·rename_i y hy
   split at e
   ·rename_i ys' hys
    cases e
    simp only [au]
    exact ⟨Am c y hy,pR cs ys' hys⟩
   ·cases e
  ·cases e
end
mutual
theorem ahM {h:List (Nat×Ob)} {S inv:List (Nat×Nat)}:∀ (x:AV),x.pure=true->tr h S inv x=some x
 | .v a,_=>by simp only [tr]
 | .sl sz xs,_=>by simp only [tr]
 | .dG cs j,_=>by simp only [tr]
 | .agg cs,hx=>by simp only [tr,Iu cs (by simpa only [AV.pure] using hx)]
 | .aF cs,hx=>by simp only [tr,Iu cs (by simpa only [AV.pure] using hx)]
 | .fn f cs,hx=>by simp only [tr,Iu cs (by simpa only [AV.pure] using hx)]
 | .own ..,hx=>by simp [AV.pure] at hx
 | .ptr ..,hx=>by simp [AV.pure] at hx
 | .rp ..,hx=>by simp [AV.pure] at hx
 | .mp ..,hx=>by simp [AV.pure] at hx
theorem Iu {h:List (Nat×Ob)} {S inv:List (Nat×Nat)}:∀ (xs:List AV),dx xs=true->jQ h S inv xs=some xs
 |[],_=>by simp only [jQ]
 |c::cs,hx=>by
  simp only [dx,Bool.and_eq_true] at hx
  simp only [jQ,ahM c hx.1,Iu cs hx.2]
end
def Cv (h:List (Nat×Ob)) (S inv:List (Nat×Nat)):List (Value×AV)->Option (List (Value×AV))
 |[]=>some []
 |(k,x)::l=>match tr h S inv x with
  |some y=>match Cv h S inv l with
   |some l'=>some ((k,y)::l')
   |none=>none
  |none=>none
theorem ZB {h:List (Nat×Ob)} {S inv:List (Nat×Nat)}:∀ (xs ys:List (Value×AV)),Cv h S inv xs=some ys->nR h S [] ys xs
 |[],ys,e=>by simp only [Cv,Option.some.injEq] at e;subst e;simp only [nR]
 |(k,x)::l,ys,e=>by
  simp only [Cv] at e
  split at e
  ·rename_i y hy
   split at e
   ·rename_i l' hl
    cases e
    simp only [nR,true_and]
    exact ⟨Am x y hy,ZB l l' hl⟩
   ·cases e
  ·cases e
def Px (h:List (Nat×Ob)) (S inv:List (Nat×Nat)):Ob->Option Ob
 | .box cs=>match jQ h S inv cs with
  |some ys=>some (.box ys)
  |none=>none
 | .row e sz xs=>some (.row e sz xs)
 | .map es=>match Cv h S inv es with
  |some ys=>some (.map ys)
  |none=>none
 | .dead=>none
theorem ahN {h:List (Nat×Ob)} {S inv:List (Nat×Nat)} {x y:Ob} (e:Px h S inv x=some y):bO h S [] y x:=by
 unfold Px at e
 split at e
 ·split at e
  ·rename_i ys hy;cases e;simp only [bO];exact pR _ _ hy
  ·cases e
 ·cases e;simp only [bO,and_self]
 ·split at e
  ·rename_i ys hy;cases e;simp only [bO];exact ZB _ _ hy
  ·cases e
 ·cases e
theorem Py {h h':List (Nat×Ob)} {S:List (Nat×Nat)} {N:List Nat}:∀ (l:List (Nat×Nat)),(∀ k b,(k,b) ∈ l->∃ y x,get h' k=some y/\get h b=some x/\bO h S N y x)->cZ h S N h' l
 |[],_=>by simp only [cZ]
 |(k,b)::l,hh=>by
  obtain ⟨y,x,h1,h2,h3⟩:=hh k b (List.mem_cons_self ..)
  simp only [cZ,h1,h2]
  exact ⟨h3,Py l fun k b hm=>hh k b (List.mem_cons_of_mem _ hm)⟩
def uq:List Nat->Nat->List (Nat×Nat)
 |[],_=>[]
 |b::O,k=>(k,b)::uq O (k+1)
theorem ZC:∀ (O:List Nat) (k:Nat) (n b:Nat),(n,b) ∈ uq O k->∃ i,n=k+i/\O[i]? =some b
 |[],k,n,b,h=>by simp [uq] at h
 |a::O,k,n,b,h=>by
  simp only [uq,List.mem_cons,Prod.mk.injEq] at h
  rcases h with ⟨rfl,rfl⟩|h
  ·exact ⟨0,rfl,rfl⟩
  ·obtain ⟨i,h1,h2⟩:=ZC O (k+1) n b h
   exact ⟨i+1,by omega,by simpa using h2⟩
def exV:List Nat->Nat->List (Nat×Nat)
 |[],_=>[]
 |b::O,k=>(b,k)::exV O (k+1)
def lT (S:List Nat):List (Nat×Nat):=S.map fun b=>(b,b)
def Cw (h:List (Nat×Ob)) (S inv:List (Nat×Nat)):Nat->Nat->Option (List (List AV))
 |_,0=>some []
 |i,m+1=>match get h i with
  |some (.box cs)=>match jQ h S inv cs with
   |some ys=>match Cw h S inv (i+1) m with
    |some l=>some (ys::l)
    |none=>none
   |none=>none
  |_=>none
theorem ZE {h:List (Nat×Ob)} {S inv:List (Nat×Nat)}:∀ (m i:Nat) (l:List (List AV)),Cw h S inv i m=some l->l.length=m/\∀ k,k<m->∃ cs ys,get h (i+k)=some (.box cs)/\l[k]? =some ys/\jQ h S inv cs=some ys
 |0,i,l,e=>by simp only [Cw,Option.some.injEq] at e;subst e;exact ⟨rfl,fun k hk=>absurd hk (by omega)⟩
 |m+1,i,l,e=>by
  simp only [Cw] at e
  split at e
  ·rename_i cs hg
   split at e
   ·rename_i ys hy
    split at e
    ·rename_i l' hl
     cases e
     obtain ⟨h1,h2⟩:=ZE m (i+1) l' hl
     refine ⟨by simp [h1],fun k hk=> ?_⟩
     cases k with
     |zero=>exact ⟨cs,ys,hg,rfl,hy⟩
     |succ k=>
      obtain ⟨cs',ys',h3,h4,h5⟩:=h2 k (by omega)
      exact ⟨cs',ys',by rw [show i+(k+1)=i+1+k by omega];exact h3,by simpa using h4,h5⟩
    ·cases e
   ·cases e
  ·cases e
def yc (h:List (Nat×Ob)):List Nat->Option (List Ob)
 |[]=>some []
 |b::O=>match get h b with
  |some (.row e sz xs)=>match yc h O with
   |some l=>some (.row e sz xs::l)
   |none=>none
  |some (.box cs)=>bif dx cs then match yc h O with
   |some l=>some (.box cs::l)
   |none=>none else none
  |_=>none
theorem Pz {h:List (Nat×Ob)}:∀ (O:List Nat) (l:List Ob),yc h O=some l->l.length=O.length/\∀ (i b:Nat),O[i]? =some b->∃ o,l[i]? =some o/\get h b=some o/\rowOk o=true
 |[],l,e=>by simp only [yc,Option.some.injEq] at e;subst e;exact ⟨rfl,fun i b h=>by simp at h⟩
 |a::O,l,e=>by
  simp only [yc] at e
  split at e
  ·rename_i e1 sz xs hg
   split at e
   ·rename_i l' hl
    cases e
    obtain ⟨h1,h2⟩:=Pz O l' hl
    refine ⟨by simp [h1],fun i b hi=> ?_⟩
    cases i with
    |zero=>simp at hi;subst hi;exact ⟨_,rfl,hg,rfl⟩
    |succ i=>simpa using h2 i b (by simpa using hi)
   ·cases e
  ·rename_i cs hg
   cases hp:dx cs with
   |false=>rw [hp] at e;cases e
   |true=>
    rw [hp] at e
    simp only [cond_true] at e
    split at e
    ·rename_i l' hl
     cases e
     obtain ⟨h1,h2⟩:=Pz O l' hl
     refine ⟨by simp [h1],fun i b hi=> ?_⟩
     cases i with
     |zero=>simp at hi;subst hi;exact ⟨_,rfl,hg,hp⟩
     |succ i=>simpa using h2 i b (by simpa using hi)
    ·cases e
  ·cases e
def ol (m:Nat) (O:List Nat) (vs:List AV) (h:List (Nat×Ob)):Option (AV×List (List AV)×List Ob):=
 match tr h (lT (List.range m)++uq O 4) (lT (List.range m)++exV O 4) (ay vs) with
 |some r=>match Cw h (lT (List.range m)++uq O 4) (lT (List.range m)++exV O 4) 0 m with
  |some bs=>match yc h O with
   |some es=>bif decide (m<=4)&&iD h (lT (List.range m)++uq O 4) [] (outs bs es) then some (r,bs,es) else none
   |none=>none
  |none=>none
 |none=>none
theorem Ao {m:Nat} {O:List Nat} {vs:List AV} {t:List (Nat×AV)} {h:List (Nat×Ob)} {res:List iJ} {r:AV} {bs:List (List AV)} {es:List Ob} (hv:jO t h res=some vs) (e:ol m O vs h=some (r,bs,es)):
 Fin res r bs es t h/\bs.length=m/\es.all rowOk=true:=by
 simp only [ol] at e
 split at e
 ·rename_i r' hr
  split at e
  ·rename_i bs' hb
   split at e
   ·rename_i es' he
    cases ho:(decide (m<=4)&&iD h (lT (List.range m)++uq O 4) [] (outs bs' es')) with
    |false=>rw [ho] at e;cases e
    |true=>
     rw [ho] at e
     simp only [cond_true,Option.some.injEq,Prod.mk.injEq] at e
     obtain ⟨rfl,rfl,rfl⟩:=e
     simp only [Bool.and_eq_true,decide_eq_true_eq] at ho
     obtain ⟨hm,ho⟩:=ho
     obtain ⟨hl,hg⟩:=ZE _ _ _ hb
     obtain ⟨hl',hg'⟩:=Pz _ _ he
     refine ⟨⟨_,[],vs,hv,ho,Py _ fun k b hmem=> ?_,by simp only [gY],Am _ _ hr⟩,hl,?_⟩
     ·rcases List.mem_append.1 hmem with hmem|hmem
      ·simp only [lT,List.mem_map,List.mem_range,Prod.mk.injEq] at hmem
       obtain ⟨i,hi,rfl,rfl⟩:=hmem
       obtain ⟨cs,ys,h1,h2,h3⟩:=hg i hi
       rw [Nat.zero_add] at h1
       exact ⟨.box ys,.box cs,Ab h2,h1,pR _ _ h3⟩
      ·obtain ⟨i,rfl,hi⟩:=ZC _ _ _ _ hmem
       obtain ⟨o,h1,h2,h3⟩:=hg' i b hi
       refine ⟨o,o,HV (by omega) h1,h2,?_⟩
       cases o with
       |row e sz xs=>simp only [bO,and_self]
       |box cs=>simp only [bO];exact vP cs h3
       |map es=>simp [rowOk] at h3
       |dead=>simp [rowOk] at h3
     ·rw [List.all_eq_true]
      intro o ho'
      obtain ⟨i,hi⟩:=List.mem_iff_getElem?.1 ho'
      have hlt:=(List.getElem?_eq_some_iff.1 hi).1
      obtain ⟨o',h1,_,h3⟩:=hg' i _ (List.getElem?_eq_getElem (show i<O.length by omega))
      rw [hi] at h1
      cases h1
      exact h3
   ·cases e
  ·cases e
 ·cases e
def qL {α:Type}:List (Nat×α)->List Nat->List (Nat×α)
 |[],_=>[]
 |(k,x)::l,seen=>bif seen.contains k then qL l seen else (k,x)::qL l (k::seen)
theorem PD {α:Type}:∀ (l:List (Nat×α)) (seen:List Nat) (k:Nat) (x:α),(k,x) ∈ qL l seen->get l k=some x/\seen.contains k=false
 |[],seen,k,x,h=>by simp [qL] at h
 |(a,y)::l,seen,k,x,h=>by
  simp only [qL] at h
  cases hc:seen.contains a with
  |true=>
   rw [hc] at h
   simp only [cond_true] at h
   obtain ⟨h1,h2⟩:=PD l seen k x h
   have:a≠k:=by intro e;subst e;rw [hc] at h2;cases h2
   exact ⟨by rw [jd _ _ _ _ this];exact h1,h2⟩
  |false=>
   rw [hc] at h
   simp only [cond_false,List.mem_cons,Prod.mk.injEq] at h
   rcases h with ⟨rfl,rfl⟩|h
   ·exact ⟨nG _ _ _,hc⟩
   ·obtain ⟨h1,h2⟩:=PD l (a::seen) k x h
    simp only [List.contains_cons,Bool.or_eq_false_iff,beq_eq_false_iff_ne,ne_eq] at h2
    exact ⟨by rw [jd _ _ _ _ (fun e=>h2.1 e.symm)];exact h1,h2.2⟩
def vV (Z:List Nat):List (Nat×Ob)->List Nat
 |[]=>[]
 |(_,.dead)::l=>vV Z l
 |(k,_)::l=>bif Z.contains k then vV Z l else k::vV Z l
def Iw (h:List (Nat×Ob)) (S:List (Nat×Nat)):List Nat->Option (List (Nat×Ob))
 |[]=>some []
 |b::l=>match get h b with
  |some o=>match Px h S S o with
   |some y=>match Iw h S l with
    |some h'=>some ((b,y)::h')
    |none=>none
   |none=>none
  |none=>none
theorem ZF {h:List (Nat×Ob)} {S:List (Nat×Nat)}:∀ (L:List Nat) (h':List (Nat×Ob)),Iw h S L=some h'->∀ b ∈ L,∃ y x,get h' b=some y/\get h b=some x/\bO h S [] y x
 |[],h',e,b,hb=>by simp at hb
 |a::l,h',e,b,hb=>by
  simp only [Iw] at e
  split at e
  ·rename_i x hg
   split at e
   ·rename_i y hy
    split at e
    ·rename_i h0 hl
     cases e
     by_cases hab:a=b
     ·subst hab;exact ⟨y,x,nG _ _ _,hg,ahN hy⟩
     ·have hb':b ∈ l:=by
       rcases List.mem_cons.1 hb with h|h
       ·exact absurd h.symm hab
       ·exact h
      obtain ⟨y',x',h1,h2,h3⟩:=ZF l h0 hl b hb'
      exact ⟨y',x',by rw [jd _ _ _ _ hab];exact h1,h2,h3⟩
    ·cases e
   ·cases e
  ·cases e
def Ap (h:List (Nat×Ob)) (S:List (Nat×Nat)):List (Nat×AV)->List (Nat×AV)
 |[]=>[]
 |(k,x)::l=>match tr h S S x with
  |some y=>(k,y)::Ap h S l
  |none=>Ap h S l
theorem PE {h:List (Nat×Ob)} {S:List (Nat×Nat)} {t:List (Nat×AV)}:∀ (l:List (Nat×AV)),(∀ k x,(k,x) ∈ l->get t k=some x)->eG h S [] t (Ap h S l)
 |[],_=>by simp only [Ap,eG]
 |(k,x)::l,hh=>by
  simp only [Ap]
  split
  ·rename_i y hy
   simp only [eG,hh k x (List.mem_cons_self ..)]
   exact ⟨Am _ _ hy,PE l fun k x hm=>hh k x (List.mem_cons_of_mem _ hm)⟩
  ·exact PE l fun k x hm=>hh k x (List.mem_cons_of_mem _ hm)
def Cx (Z:List Nat) (t:List (Nat×AV)) (h:List (Nat×Ob)):Option (List (Nat×AV)×List (Nat×Ob)):=
 match Iw h (lT (vV Z (qL h []))) (vV Z (qL h [])) with
 |some h'=>bif iD h (lT (vV Z (qL h []))) [] h' then some (Ap h (lT (vV Z (qL h []))) (qL t []),h') else none
 |none=>none
theorem ZG {Z:List Nat} {t t':List (Nat×AV)} {h h':List (Nat×Ob)} (e:Cx Z t h=some (t',h')):BI t h t' h':=by
 simp only [Cx] at e
 generalize vV Z (qL h [])=S at e
 split at e
 ·rename_i h0 hh
  cases ho:iD h (lT S) [] h0 with
  |false=>rw [ho] at e;cases e
  |true=>
   rw [ho] at e
   simp only [cond_true,Option.some.injEq,Prod.mk.injEq] at e
   obtain ⟨rfl,rfl⟩:=e
   refine BI.mk (lT S) (by simp [lT]) ho (Py _ fun k b hm=> ?_) (PE _ fun k x hm=>(PD _ _ _ _ hm).1)
   simp only [lT,List.mem_map,Prod.mk.injEq] at hm
   obtain ⟨i,hi,rfl,rfl⟩:=hm
   exact ZF _ _ hh i hi
 ·cases e
theorem ahO {Z:List Nat} {n:Nat} {t t':List (Nat×AV)} {h h':List (Nat×Ob)} (e:Cx Z t h=some (t',h')):Wk ⟨n,t,h⟩ ⟨n,t',h'⟩:=by
 intro C ρ U a w hR hU
 obtain ⟨ρ',U',h1,h2⟩:=ZG e C ρ U a w ⟨hR.hr,hR.defers,hR.sz,hR.tm⟩
 exact ⟨ρ',U',⟨h1.hr,h1.defers,h1.sz,h1.tm⟩,fun b hb=>hU b (h2 b hb)⟩
abbrev RunT:=FuncId->List AV->List (List AV)->List Ob->Option (List AV×List (Nat×Ob))
def fI (P:Program) (run:RunT):Prop:=∀ f xs bs gs vs h,run f xs bs gs=some (vs,h)->∃ t res,jO t h res=some vs/\∀ r bs' es,Fin res r bs' es t h->gu P f xs bs gs r bs' es
theorem gu.Cy {P:Program} {f:FuncId} {xs:List AV} {bs bs':List (List AV)} {r:AV} {es:List Ob} (hF:gu P f xs bs [] r bs' es):Fn P f xs bs r bs' es:=
 ⟨hF.1,fun C ρ U w vals hr hU hv=>hF.2 C ρ U w vals (by simpa [outs,dB] using hr) (fun b hb=>by have:=hU b hb;omega) hv⟩
def PG (h:List (Nat×Ob)) (L:List Nat):List Nat:=L.filter fun b=>match get h b with
 |some (.box _)=>true
 |_=>false
def Cz (h:List (Nat×Ob)) (L:List Nat):List Nat:=L.filter fun b=>match get h b with
 |some (.row _ _ _)=>true
 |_=>false
def cont (h:List (Nat×Ob)) (B:List Nat):List Nat:=B.flatMap fun b=>match get h b with
 |some (.box cs)=>dF cs
 |_=>[]
def ahP (h:List (Nat×Ob)) (ys:List AV):List Nat:=
 let B:=(PG h (dF ys)).eraseDups
 match B with
 |[]=>[]
 |B=>let B:=(B++PG h (cont h B)).eraseDups
  (B++PG h (cont h B)).eraseDups
def om:List AV->List Nat
 |[]=>[]
 | .own b _ _ _::l=>b::om l
 |_::l=>om l
def Iy (m:Nat):List AV->List Nat
 |[]=>[]
 | .ptr b _::l=>bif Nat.blt b m then Iy m l else b::Iy m l
 |_::l=>Iy m l
def CB:List AV->List Nat
 |[]=>[]
 | .own b _ _ _::l=>b::CB l
 | .agg cs::l=>bif Nat.blt 2 cs.length then om cs++CB l else CB l
 |_::l=>CB l
def vW (m:Nat) (h:List (Nat×Ob)) (vs:List AV):List Nat:=Cz h (CB vs)++Iy m vs
def vX:Ob->Bool
 | .row _ _ xs=>xs.all jP
 | .box cs=>jP cs
 |_=>false
theorem PI:∀ (cs:List AV),jP cs=true->∀ c ∈ cs,na c=true
 |[],_,c,h=>by simp at h
 |x::cs,hh,c,h=>by
  simp only [jP,Bool.and_eq_true] at hh
  rcases List.mem_cons.1 h with rfl|h
  ·exact hh.1
  ·exact PI cs hh.2 c h
theorem ZH {o:Ob} (h:vX o=true):lS o:=by
 cases o with
 |row e sz xs=>
  simp only [vX,List.all_eq_true] at h
  exact fun x hx c hc=>PI x (h x hx) c hc
 |box cs=>exact PI cs h
 |map es=>simp [vX] at h
 |dead=>simp [vX] at h
def yg (Bx:List (Nat×List AV)):List (Nat×Ob):=Bx.map fun p=>(p.1,Ob.box p.2)
section
variable {C:Ctx} {ρ:Nat->Loc} {U:Nat->Prop} {h:List (Nat×Ob)} {w:World}
theorem ZI (hr:HR C ρ U h w) (Z:List Nat):dH ρ (stay h Z) []=fJ ρ Z:=by
 funext k
 simp only [dH,Ae,fJ]
 by_cases hkz:k ∈ Z
 ·simp [hkz]
 ·by_cases hkh:k ∈ h.map Prod.fst
  ·rw [if_pos ⟨hkh,hkz⟩,if_neg hkz]
  ·rw [if_neg (fun h=>hkh h.1),if_neg hkz]
   have:get h k=none:=by
    cases hg:get h k with
    |none=>rfl
    |some o=>exact absurd (List.mem_map.2 ⟨_,get_mem hg,rfl⟩) hkh
   rw [hr.hd k this];simp
theorem ZJ (hr:HR C ρ U h w) (Z:List Nat):∀ k,jN (stay h Z) [] k->U k:=by
 intro k hk
 rcases hk with hk|hk
 ·obtain ⟨c,hc⟩:=vM hk
  rw [Ae] at hc
  split at hc
  ·rename_i h1
   obtain ⟨o,ho⟩:=vM h1.1
   exact (hr.hp k o ho).1
  ·cases hc
 ·simp at hk
theorem HR.ZK (hr:HR C ρ U h w) (Z:List Nat):∀ (Bx:List (Nat×List AV)) (U1:Nat->Prop) (h1:List (Nat×Ob)),(∀ p ∈ Bx,p.1 ∉ Z/\∃ cs,get h p.1=some (.box cs)/\au h (stay h Z) [] p.2 cs)->
 (∀ k,U1 k->U k)->(∀ k,U k->U1 k)->HR C (fJ ρ Z) U1 h1 w->∃ U2,(∀ k,U2 k->U k)/\(∀ k,U k->U2 k)/\HR C (fJ ρ Z) U2 (yg Bx++h1) w
 |[],U1,h1,_,vQ,vR,hr1=>⟨U1,vQ,vR,hr1⟩
 |(b,ds)::Bx,U1,h1,hB,vQ,vR,hr1=>by
  obtain ⟨U2,hu1,hu2,hr2⟩:=HR.ZK hr Z Bx U1 h1 (fun p hp=>hB p (List.mem_cons_of_mem _ hp)) vQ vR hr1
  obtain ⟨ZL,cs,hg,hv⟩:=hB (b,ds) (List.mem_cons_self ..)
  simp only at ZL hg hv
  obtain ⟨hub,g,o,n,e,cells,h1',h2',h3',h4',h5'⟩:=hr.hp b _ hg
  have hkl:fJ ρ Z b=ρ b:=by unfold fJ;rw [if_neg ZL]
  have hm:Moved C (fJ ρ Z) U2 (yg Bx++h1) w b (fJ ρ Z b) w:=⟨rfl,rfl,rfl,Nat.le_refl _,fun _ _ _=>rfl,.inl ⟨hu2 _ hub,rfl⟩⟩
  have hup:up (fJ ρ Z) b (fJ ρ Z b)=fJ ρ Z:=by
   funext k
   unfold up
   by_cases e:k=b
   ·rw [if_pos e,e]
   ·rw [if_neg e]
  have hl:=iU _ _ hv
  have:=hm.hr hr2 (ob:= .box ds) (fun _=>⟨ds,rfl⟩) (by
   rw [hup,hkl]
   refine ⟨g,o,n,e,cells,h1',h2',h3',by omega,fun j c hj=> ?_⟩
   obtain ⟨x,hx,hxv⟩:=iV _ _ hv j c hj
   obtain ⟨u,hu,huv⟩:=h5' j x hx
   have:=lD hr huv c hxv
   rw [ZI hr Z] at this
   exact ⟨u,hu,this.mono (fun _ h=>h) (fun _ _=>rfl) (fun k hk=> .inl (hu2 _ (ZJ hr Z k hk))) (fun _ _=> .inl rfl)⟩)
  rw [hup] at this
  refine ⟨ig U2 b,fun k hk=> ?_,fun k hk=> .inl (hu2 k hk),this⟩
  rcases hk with hk|rfl
  ·exact hu1 k hk
  ·exact hub
theorem ahQ {P:Program} {nm:Nat} {f:FuncId} {args args':List AV} {Q:AV->List (Nat×Ob)->Prop} (Z:List Nat) (Bx:List (Nat×List AV))
 (hz:∀ b ∈ Z,∃ e sz xs,get h b=some (.row e sz xs)) (hB:∀ p ∈ Bx,p.1 ∉ Z/\∃ cs,get h p.1=some (.box cs)/\au h (stay h Z) [] p.2 cs)
 (ha:au h (stay h Z) [] args' args) (hk:rR P nm f args' (yg Bx++(kills Z++h)) Q):rR P nm f args h Q:=by
 refine ⟨hk.1,fun C ρ U w vals hr hU hv=> ?_⟩
 obtain ⟨U0,vQ,vR,hr0⟩:=hr.kills Z hz
 obtain ⟨U',hV1,hV2,hr'⟩:=HR.ZK hr Z Bx U0 _ hB vQ vR hr0
 have pI:Later U ρ (fJ ρ Z):=fun b _=>by
  unfold fJ
  by_cases e:b ∈ Z
  ·rw [if_pos e];exact .inr rfl
  ·rw [if_neg e];exact .inl rfl
 have Ph:∀ g,aP C ρ w g->aP C (fJ ρ Z) w g:=fun g hg=>⟨hg.1,hg.2.1,fun ⟨b,o,n,hb⟩=>by
  unfold fJ at hb
  split at hb
  ·cases hb
  ·exact hg.2.2 ⟨b,o,n,hb⟩⟩
 have hl:=iU _ _ ha
 have hv':VL w (aP C (fJ ρ Z) w) (fJ ρ Z) U' args' vals:=by
  refine ⟨by rw [hl];exact hv.1,fun i x u hi hu=> ?_⟩
  obtain ⟨y,hy,hxy⟩:=iV _ _ ha i x hi
  have:=lD hr (hv.2 i y u hy hu) x hxy
  rw [ZI hr Z] at this
  exact this.mono (fun _ h=>h) (fun _ _=>rfl) (fun k hk=>hV2 k (ZJ hr Z k hk)) (fun _ _=> .inl rfl)
 refine (hk.2 C (fJ ρ Z) U' w vals hr' (fun b hb=>hU b (hV1 b hb)) hv').mono fun e w' hpost=> ?_
 obtain ⟨v,r,h',ρ',xJ,rfl,h1,h2,h3,h4,h5⟩:=hpost
 exact ⟨v,r,h',ρ',xJ,rfl,h1,h2,fun x u hx=>h3 x u (hx.mono Ph (fun _ _=>rfl) hV2 pI),fun b hb=>(h4 b hb).imp (hV1 b) id,h5⟩
end
theorem Iz {h:List (Nat×Ob)} {Z:List Nat} {k b:Nat} (e:get (stay h Z) k=some b):k=b/\k ∉ Z/\∃ o,get h k=some o:=by
 rw [Ae] at e
 split at e
 ·rename_i h1
  cases e
  exact ⟨rfl,h1.2,vM h1.1⟩
 ·cases e
theorem CF {h:List (Nat×Ob)} {Z:List Nat} {k:Nat} {o:Ob} (e:get h k=some o) (hz:k ∉ Z):get (stay h Z) k=some k:=by
 rw [Ae,if_pos ⟨List.mem_map.2 ⟨_,get_mem e,rfl⟩,hz⟩]
theorem PK {h:List (Nat×Ob)} {Z:List Nat} {b:Nat}:b ∈ (stay h Z).map Prod.snd->b ∉ Z:=by
 intro hm
 simp only [stay,List.map_map,List.mem_map,List.mem_filter,Function.comp] at hm
 obtain ⟨a,⟨_,h2⟩,rfl⟩:=hm
 simpa using h2
theorem PL {h:List (Nat×Ob)} {Z:List Nat} {b:Nat} {o:Ob} (e:get h b=some o) (hn:b ∉ (stay h Z).map Prod.snd):b ∈ Z:=by
 apply Classical.byContradiction
 intro hz
 refine hn ?_
 have:=get_mem (CF e hz)
 exact List.mem_map.2 ⟨_,this,rfl⟩
mutual
theorem ahR {h h':List (Nat×Ob)} {Z:List Nat}:∀ (y x:AV),(∀ b ∈ deep x,get h' b=get h b)->rv h (stay h Z) [] y x->rv h' (stay h' Z) [] y x
 | .own k sz off len,x,hh,hx=>by
  cases x<;>simp only [rv] at hx ⊢
  ·split at hx
   ·rename_i heq;cases heq
   ·rename_i heq;cases heq;exact absurd hx.1 (by simp)
   ·exact hx.elim
  ·rename_i b sz' off' len'
   obtain ⟨h1,h2⟩:=hx
   obtain ⟨rfl,h3,o,h4⟩:=Iz h1
   exact ⟨CF (by rw [hh _ (by simp [deep])];exact h4) h3,h2⟩
 | .ptr k j,x,hh,hx=>by
  cases x<;>simp only [rv] at hx ⊢
  obtain ⟨h1,h2⟩:=hx
  obtain ⟨rfl,h3,o,h4⟩:=Iz h1
  exact ⟨CF (by rw [hh _ (by simp [deep])];exact h4) h3,h2⟩
 | .rp k sz i j,x,hh,hx=>by
  cases x<;>simp only [rv] at hx ⊢
  obtain ⟨h1,h2⟩:=hx
  obtain ⟨rfl,h3,o,h4⟩:=Iz h1
  exact ⟨CF (by rw [hh _ (by simp [deep])];exact h4) h3,h2⟩
 | .mp k,x,hh,hx=>by
  cases x<;>simp only [rv] at hx ⊢
  obtain ⟨rfl,h3,o,h4⟩:=Iz hx
  exact CF (by rw [hh _ (by simp [deep])];exact h4) h3
 | .sl sz ys,x,hh,hx=>by
  cases x<;>simp only [rv] at hx ⊢
  ·split at hx
   ·rename_i heq;cases heq
   ·rename_i heq;cases heq;exact hx
   ·rename_i heq;cases heq
   ·exact hx.elim
  ·exact hx
  ·rename_i b sz' off' len'
   obtain ⟨h1,h2,h3⟩:=hx
   rw [hh b (by simp [deep])]
   refine ⟨fun hm=> ?_,h2,h3⟩
   split at h3
   ·rename_i e sz2 xs hg;exact PK hm (PL hg h1)
   ·rename_i cs hg;exact PK hm (PL hg h1)
   ·exact h3
 | .dG cs j,x,hh,hx=>by
  cases x<;>simp only [rv] at hx ⊢
  ·rename_i b sz' i' j'
   obtain ⟨h1,h2,h3⟩:=hx
   rw [hh b (by simp [deep])]
   refine ⟨fun hm=> ?_,h2,h3⟩
   split at h3
   ·rename_i e sz2 xs hg;exact PK hm (PL hg h1)
   ·exact h3
  ·exact hx
 | .agg ys,x,hh,hx=>by
  cases x<;>simp only [rv] at hx ⊢
  exact Aq ys _ (by simpa only [deep] using hh) hx
 | .aF ys,x,hh,hx=>by
  cases x<;>simp only [rv] at hx ⊢
  exact Aq ys _ (by simpa only [deep] using hh) hx
 | .fn f ys,x,hh,hx=>by
  cases x<;>simp only [rv] at hx ⊢
  exact ⟨hx.1,Aq ys _ (by simpa only [deep] using hh) hx.2⟩
 | .v a,x,hh,hx=>by simp only [rv] at hx ⊢;exact hx
theorem Aq {h h':List (Nat×Ob)} {Z:List Nat}:∀ (ys xs:List AV),(∀ b ∈ dF xs,get h' b=get h b)->au h (stay h Z) [] ys xs->au h' (stay h' Z) [] ys xs
 |[],[],_,_=>by simp only [au]
 |y::ys,x::xs,hh,hx=>by
  simp only [au] at hx ⊢
  simp only [dF,List.mem_append] at hh
  exact ⟨ahR y x (fun b hb=>hh b (.inl hb)) hx.1,Aq ys xs (fun b hb=>hh b (.inr hb)) hx.2⟩
 |[],_::_,_,hx=>by simp [au] at hx
 |_::_,[],_,hx=>by simp [au] at hx
end
def CG (h:List (Nat×Ob)) (S:List (Nat×Nat)):List Nat->Option (List (Nat×List AV))
 |[]=>some []
 |b::B=>match get h b with
  |some (.box cs)=>match jQ h S S cs with
   |some ds=>match CG h S B with
    |some l=>some ((b,ds)::l)
    |none=>none
   |none=>none
  |_=>none
theorem ZM {h:List (Nat×Ob)} {S:List (Nat×Nat)}:∀ (B:List Nat) (Bx:List (Nat×List AV)),CG h S B=some Bx->∀ p ∈ Bx,p.1 ∈ B/\∃ cs,get h p.1=some (.box cs)/\au h S [] p.2 cs
 |[],Bx,e,p,hp=>by simp only [CG,Option.some.injEq] at e;subst e;simp at hp
 |b::B,Bx,e,p,hp=>by
  simp only [CG] at e
  split at e
  ·rename_i cs hg
   split at e
   ·rename_i ds hd
    split at e
    ·rename_i l hl
     cases e
     rcases List.mem_cons.1 hp with rfl|hp
     ·exact ⟨List.mem_cons_self ..,cs,hg,pR _ _ hd⟩
     ·obtain ⟨h1,h2⟩:=ZM B l hl p hp
      exact ⟨List.mem_cons_of_mem _ h1,h2⟩
    ·cases e
   ·cases e
  ·cases e
def CJ (h:List (Nat×Ob)) (S inv:List (Nat×Nat)):List Nat->Option (List (List AV))
 |[]=>some []
 |b::B=>match get h b with
  |some (.box cs)=>match jQ [] S inv cs with
   |some ds=>match CJ h S inv B with
    |some l=>some (ds::l)
    |none=>none
   |none=>none
  |_=>none
theorem ZN {h:List (Nat×Ob)} {S inv:List (Nat×Nat)}:∀ (B:List Nat) (bs:List (List AV)),CJ h S inv B=some bs->gH h S B bs
 |[],bs,e=>by simp only [CJ,Option.some.injEq] at e;subst e;simp only [gH]
 |b::B,bs,e=>by
  simp only [CJ] at e
  split at e
  ·rename_i cs hg
   split at e
   ·rename_i ds hd
    split at e
    ·rename_i l hl
     cases e
     simp only [gH,hg]
     exact ⟨pR _ _ hd,ZN B l hl⟩
    ·cases e
   ·cases e
  ·cases e
def CK (h:List (Nat×Ob)):List Nat->Option (List Ob)
 |[]=>some []
 |b::G=>match get h b with
  |some (.row e sz xs)=>match CK h G with
   |some l=>some (.row e sz xs::l)
   |none=>none
  |_=>none
theorem ZO {h:List (Nat×Ob)}:∀ (G:List Nat) (gs:List Ob),CK h G=some gs->gJ h G gs
 |[],gs,e=>by simp only [CK,Option.some.injEq] at e;subst e;simp only [gJ]
 |b::G,gs,e=>by
  simp only [CK] at e
  split at e
  ·rename_i e1 sz xs hg
   split at e
   ·rename_i l hl
    cases e
    simp only [gJ,hg,isRow,and_self,true_and]
    exact ZO G l hl
   ·cases e
  ·cases e
def CO (S inv:List (Nat×Nat)):List (List AV)->Option (List (List AV))
 |[]=>some []
 |c::l=>match jQ [] S inv c with
  |some c'=>match CO S inv l with
   |some l'=>some (c'::l')
   |none=>none
  |none=>none
theorem ZP {S inv:List (Nat×Nat)}:∀ (l l':List (List AV)),CO S inv l=some l'->iX S l' l
 |[],l',e=>by simp only [CO,Option.some.injEq] at e;subst e;simp only [iX]
 |c::l,l',e=>by
  simp only [CO] at e
  split at e
  ·rename_i c' hc
   split at e
   ·rename_i l0 hl
    cases e
    simp only [iX]
    exact ⟨pR _ _ hc,ZP l l0 hl⟩
   ·cases e
  ·cases e
theorem ZQ {S:List (Nat×Nat)}:∀ (es:List Ob),es.all rowOk=true->iY S es es
 |[],_=>by simp only [iY]
 |o::es,h=>by
  simp only [List.all_cons,Bool.and_eq_true] at h
  simp only [iY]
  refine ⟨?_,ZQ es h.2⟩
  cases o with
  |row e sz xs=>simp only [bO,and_self]
  |box cs=>simp only [bO];exact vP cs h.1
  |map es=>simp [rowOk] at h
  |dead=>simp [rowOk] at h
def invS (B G:List Nat):List (Nat×Nat):=exV B 0++exV G 4
def ZR (B:List Nat) (nm m:Nat):List (Nat×Nat):=(List.range B.length).map (fun i=>(i,B[i]?.getD 0))++(List.range m).map (fun i=>(4+i,nm+i))
def Ar (tl:List (Nat×Ob)->List AV->List Nat) (run:RunT) (nm:Nat) (h:List (Nat×Ob)) (f:FuncId) (ys:List AV) (B G Z:List Nat):Option Rec:=
 match jQ h (stay h Z) (stay h Z) ys with
 |some ZT=>
  match CG h (stay h Z) B with
  |some Bx=>match jQ [] (dS B G) (invS B G) ZT with
   |some xs=>match CJ (yg Bx++(kills Z++h)) (dS B G) (invS B G) B with
    |some bs=>match CK (yg Bx++(kills Z++h)) G with
     |some gs=>match run f xs bs gs with
      |some (vs,h')=>match ol B.length (tl h' vs).eraseDups vs h' with
       |some (r,bs',es)=>match tr [] (ji B nm es.length) (ZR B nm es.length) r with
        |some r'=>match CO (ji B nm es.length) (ZR B nm es.length) bs' with
         |some cs'=>bif (decide (B.length<=4)&&(decide (G.length<=4)&&(decide ((B++G).Nodup)&&(decide (bs'.length=B.length)&&decide (es.length<=8)))))&&(pM h Z&&B.all (fun b=> !Z.contains b)) then
          some ⟨r',(dB nm es++(gq B cs'++kills G))++(yg Bx++kills Z),dF ys++(B++(G++(Z++cont h B)))⟩ else none
         |none=>none
        |none=>none
       |none=>none
      |none=>none
     |none=>none
    |none=>none
   |none=>none
  |none=>none
 |none=>none
theorem ahT {h h':List (Nat×Ob)} {a c:List (Nat×Ob)} {b:Nat} (e:get h' b=get h b):get (a++(c++h')) b=get (a++(c++h)) b:=by
 simp only [get_append,e]
theorem IA {P:Program} {tl:List (Nat×Ob)->List AV->List Nat} {run:RunT} (hrun:fI P run) {nm:Nat} {h:List (Nat×Ob)} {f:FuncId} {ys:List AV} {B G Z:List Nat} {r:Rec} (e:Ar tl run nm h f ys B G Z=some r):jH P nm f ys h r:=by
 simp only [Ar] at e
 split at e
 ·rename_i ZT hy
  split at e
  ·rename_i Bx hb
   split at e
   ·rename_i xs hx
    split at e
    ·rename_i bs hbs
     split at e
     ·rename_i gs hgs
      split at e
      ·rename_i vs h1 hr
       split at e
       ·rename_i r0 bs' es hF
        split at e
        ·rename_i r' hr'
         split at e
         ·rename_i cs' hcs
          obtain ⟨t,res,hv,hrun'⟩:=hrun _ _ _ _ _ _ hr
          obtain ⟨yh,hl,hes⟩:=Ao hv hF
          have hFn:=hrun' _ _ _ yh
          generalize hd:((decide (B.length<=4)&&(decide (G.length<=4)&&(decide ((B++G).Nodup)&&(decide (bs'.length=B.length)&&decide (es.length<=8)))))&&(pM h Z&&B.all (fun b=> !Z.contains b)))=q at e
          cases q with
          |false=>cases e
          |true=>
           simp only [cond_true,Option.some.injEq] at e
           subst e
           obtain ⟨hd1,ahU⟩:=(Bool.and_eq_true _ _).mp hd
           obtain ⟨hd2,hd3⟩:=(Bool.and_eq_true _ _).mp ahU
           have hC:=hFn.ug (nm:=nm) (h:=yg Bx++(kills Z++h)) B G r' cs' es (pR _ _ hx) (ZN _ _ hbs) (ZO _ _ hgs) hd1 (ZP _ _ hcs) (ZQ es hes) (Am _ _ hr')
           intro h' hh Q hQ
           have hbz:∀ b ∈ B,b ∉ Z:=fun b hb hz=>by
            have:=List.all_eq_true.1 hd3 b hb
            simp [hz] at this
           refine ahQ Z Bx (fun b hbz=> ?_) (fun p hp=> ?_) (Aq _ _ (fun b hb=>hh b (by simp [hb])) (pR _ _ hy)) ?_
           ·obtain ⟨e1,sz,PN,hx1⟩:=Ih _ hd2 b hbz
            exact ⟨e1,sz,PN,by rw [hh b (by simp [hbz])];exact hx1⟩
           ·obtain ⟨h2,cs,h3,h4⟩:=ZM _ _ hb p hp
            refine ⟨hbz _ h2,cs,by rw [hh p.1 (by simp [h2])];exact h3,Aq _ _ (fun b hb=>hh b ?_) h4⟩
            have:b ∈ cont h B:=by
             simp only [cont,List.mem_flatMap]
             exact ⟨p.1,h2,by rw [h3];exact hb⟩
            simp [this]
           ·refine hC _ (fun b hb=>ahT (hh b ?_)) Q ?_
            ·rcases List.mem_append.1 hb with hb|hb<;>simp [hb]
            ·simpa only [List.append_assoc] using hQ
         ·cases e
        ·cases e
       ·cases e
      ·cases e
     ·cases e
    ·cases e
   ·cases e
  ·cases e
 ·cases e
def mapA (f:AV->Option AV):List AV->Option (List AV)
 |[]=>some []
 |c::cs=>match f c with
  |some d=>match mapA f cs with
   |some ds=>some (d::ds)
   |none=>none
  |none=>none
def uw (h:List (Nat×Ob)):Nat->AV->Option AV
 |0,x=>tr h [] [] x
 |k+1,.ptr b j=>match get h b with
  |some (.box cs)=>match mapA (uw h k) cs with
   |some ds=>bif dx ds then some (.dG ds j) else none
   |none=>none
  |_=>none
 |k+1,.fn f cs=>match mapA (uw h k) cs with
  |some ds=>bif Nat.blt f 2000000 then some (.fn f ds) else none
  |none=>none
 |_+1,x=>tr h [] [] x
def si (h:List (Nat×Ob)):Nat->AV->AV->Prop
 |0,x,y=>rv h [] [] x y
 |k+1,x,y=>rv h [] [] x y\/(∃ b j cs ds,y= .ptr b j/\x= .dG ds j/\get h b=some (.box cs)/\dx ds=true/\ds.length=cs.length/\∀ (i:Nat) d c,ds[i]? =some d->cs[i]? =some c->si h k d c)\/
  ∃ f cs ds,y= .fn f cs/\x= .fn f ds/\f<2000000/\ds.length=cs.length/\∀ (i:Nat) d c,ds[i]? =some d->cs[i]? =some c->si h k d c
theorem ZU {h:List (Nat×Ob)} {x y:AV} (e:tr h [] [] y=some x):rv h [] [] x y:=Am (S:=[]) (inv:=[]) _ _ e
theorem IB {f:AV->Option AV} {R:AV->AV->Prop} (hf:∀ y x,f y=some x->R x y):∀ (ys xs:List AV),mapA f ys=some xs->xs.length=ys.length/\∀ (i:Nat) x y,xs[i]? =some x->ys[i]? =some y->R x y
 |[],xs,e=>by simp only [mapA,Option.some.injEq] at e;subst e;exact ⟨rfl,fun i d c hd=>by simp at hd⟩
 |y::ys,xs,e=>by
  simp only [mapA] at e
  split at e
  ·rename_i x hx
   split at e
   ·rename_i xs' hxs
    cases e
    obtain ⟨h1,h2⟩:=IB hf ys xs' hxs
    refine ⟨by simp [h1],fun i d c hd hc=> ?_⟩
    cases i with
    |zero=>simp at hd hc;subst hd hc;exact hf _ _ hx
    |succ i=>exact h2 i d c (by simpa using hd) (by simpa using hc)
   ·cases e
  ·cases e
theorem PO {h:List (Nat×Ob)}:∀ (k:Nat) (y x:AV),uw h k y=some x->si h k x y
 |0,y,x,e=>ZU (by simpa only [uw] using e)
 |k+1,y,x,e=>by
  cases y
  case ptr b j=>
   simp only [uw] at e
   split at e
   ·rename_i cs hg
    split at e
    ·rename_i ds hd
     cases hp:dx ds with
     |false=>rw [hp] at e;cases e
     |true=>
      rw [hp] at e
      cases e
      obtain ⟨h1,h2⟩:=IB (PO k) cs ds hd
      exact .inr (.inl ⟨b,j,cs,ds,rfl,rfl,hg,hp,h1,h2⟩)
    ·cases e
   ·cases e
  case fn f cs=>
   simp only [uw] at e
   split at e
   ·rename_i ds hd
    cases hp:Nat.blt f 2000000 with
    |false=>rw [hp] at e;cases e
    |true=>
     rw [hp] at e
     cases e
     obtain ⟨h1,h2⟩:=IB (PO k) cs ds hd
     exact .inr (.inr ⟨f,cs,ds,rfl,rfl,by simpa [Nat.blt_eq] using hp,h1,h2⟩)
   ·cases e
  all_goals exact .inl (ZU (by simpa only [uw] using e))
theorem ahV {h:List (Nat×Ob)} {B:List Nat} {b k:Nat} {cs:List AV} (hb:b ∈ B) (hg:get h b=some (.box cs)) (hk:k ∈ dF cs):k ∈ cont h B:=by
 simp only [cont,List.mem_flatMap]
 exact ⟨b,hb,by rw [hg];exact hk⟩
theorem IC:∀ {ys:List AV} {y:AV} {b:Nat},y ∈ ys->b ∈ deep y->b ∈ dF ys
 |c::ys,y,b,hy,hb=>by
  simp only [dF,List.mem_append]
  rcases List.mem_cons.1 hy with rfl|hy
  ·exact .inl hb
  ·exact .inr (IC hy hb)
def pU (h:List (Nat×Ob)):Nat->List Nat->List Nat
 |0,L=>L
 |k+1,L=>L++pU h k (cont h L)
theorem ZV {h:List (Nat×Ob)}:∀ (k:Nat) (L:List Nat) (b:Nat),b ∈ pU h k L->b ∈ pU h (k+1) L
 |0,L,b,hb=>by simp only [pU,List.mem_append] at hb ⊢;exact .inl hb
 |k+1,L,b,hb=>by
  simp only [pU,List.mem_append] at hb ⊢
  rcases hb with hb|hb
  ·exact .inl hb
  ·exact .inr (by have:=ZV k _ b hb;simpa only [pU,List.mem_append] using this)
theorem ZW {h:List (Nat×Ob)}:∀ (k:Nat) (L:List Nat) (b:Nat),b ∈ L->b ∈ pU h k L
 |0,L,b,hb=>hb
 |k+1,L,b,hb=>by simp only [pU,List.mem_append];exact .inl hb
theorem si.cg {h h':List (Nat×Ob)}:∀ (k:Nat) (L:List Nat) (x y:AV),si h k x y->(∀ b ∈ deep y,b ∈ L)->(∀ b ∈ pU h k L,get h' b=get h b)->si h' k x y
 |0,L,x,y,hx,hL,hh=>Pf _ _ (fun b hb=>hh b (hL b hb)) hx
 |k+1,L,x,y,hx,hL,hh=>by
  rcases hx with hx|⟨b,j,cs,ds,rfl,rfl,hg,hp,hl,hc⟩|⟨f,cs,ds,rfl,rfl,hf,hl,hc⟩
  ·exact .inl (Pf _ _ (fun b hb=>hh b (ZW _ _ _ (hL b hb))) hx)
  ·have hbL:=hL b (by simp [deep])
   refine .inr (.inl ⟨b,j,cs,ds,rfl,rfl,by rw [hh b (ZW _ _ _ hbL)];exact hg,hp,hl,fun i d c hd hcc=> ?_⟩)
   exact si.cg k (cont h L) d c (hc i d c hd hcc) (fun m hm=>ahV hbL hg (IC (List.mem_of_getElem? hcc) hm)) (fun m hm=>hh m (by simp only [pU,List.mem_append];exact .inr hm))
  ·refine .inr (.inr ⟨f,cs,ds,rfl,rfl,hf,hl,fun i d c hd hcc=> ?_⟩)
   exact si.cg k L d c (hc i d c hd hcc) (fun m hm=>hL m (by simp only [deep];exact IC (List.mem_of_getElem? hcc) hm)) (fun m hm=>hh m (ZV _ _ _ hm))
def CP (C:Ctx) (w:World) (g:Nat):Prop:=(C.ok g\/C.new g\/C.ext g)/\g<w.heap.size
section
variable {C:Ctx} {ρ:Nat->Loc} {U:Nat->Prop} {h:List (Nat×Ob)} {w:World}
theorem ZX {g:Nat} (hg:aP C (dH ρ [] []) w g):CP C w g:=⟨hg.1.imp id .inl,hg.2.1⟩
theorem VR.op (hr:HR C ρ U h w):∀ (k:Nat) {x y:AV} {u:Value},VR w (aP C ρ w) ρ U y u->si h k x y->VR w (CP C w) (dH ρ [] []) (jN [] []) x u
 |0,x,y,u,hv,hx=>(lD hr hv x hx).mono (fun _=>ZX) (fun _ _=>rfl) (fun _ h=>h) (fun _ _=> .inl rfl)
 |k+1,x,y,u,hv,hx=>by
  rcases hx with hx|⟨b,j,cs,ds,rfl,rfl,hg,hp,hl,hc⟩|⟨f,cs,ds,rfl,rfl,hf,hl,hc⟩
  ·exact (lD hr hv x hx).mono (fun _=>ZX) (fun _ _=>rfl) (fun _ h=>h) (fun _ _=> .inl rfl)
  ·obtain ⟨_,a,rfl,had⟩:=hv.qA
   obtain ⟨hub,g,o,n,e,cells,h1,h2,h3,h4,h5⟩:=hr.hp b _ hg
   rw [had g o n h1]
   have hown:=hr.dJ g ⟨b,o,n,h1⟩
   have key:∀ (i:Nat) (c:AV),ds[i]? =some c->∃ u,cells[o+i]? =some u/\VP w (CP C w) c u:=fun i c hi=>by
    have hlt:i<cs.length:=by rw [<-hl];exact (List.getElem?_eq_some_iff.1 hi).1
    have hy:=List.getElem?_eq_getElem hlt
    obtain ⟨u,hu,huv⟩:=h5 i _ hy
    exact ⟨u,hu,Pb (VR.op hr k huv (hc i c _ hi hy)) (BN _ hp i c hi)⟩
   refine .p (.dG g o (fun i=>(cells[o+i]?).getD undef) ⟨?_,hown.2⟩ (fun i c hi=> ?_) (fun i c hi=> ?_))
   ·rcases hown.1 with h|h
    ·exact .inr (.inr h)
    ·exact .inr (.inl h)
   ·obtain ⟨u,hu,_⟩:=key i c hi
    rw [zS h2,hu];rfl
   ·obtain ⟨u,hu,hv⟩:=key i c hi
    simp only [hu,Option.getD_some];exact hv
  ·obtain ⟨vs,rfl,h1,h2⟩:=hv.GR hf
   refine .fn hf (hl.trans h1) fun i d u hd hu=> ?_
   have hlt:i<cs.length:=by rw [<-hl];exact (List.getElem?_eq_some_iff.1 hd).1
   have hcc:=List.getElem?_eq_getElem hlt
   exact VR.op hr k (h2 i _ u hcc hu) (hc i d _ hd hcc)
end
theorem Fn.CQ {P:Program} {f:FuncId} {xs ys:List AV} {r:AV} {es:List Ob} {h:List (Nat×Ob)} (hF:Fn P f xs [] r [] es) (nm:Nat) (ha:mapA (uw h 4) ys=some xs) (hes:es.all rowOk=true) (hna:∀ o ∈ es,lS o) (hm:es.length<=8)
 (hx:dX es.length r=true) (hr0:na r=true):jH P nm f ys h ⟨sh nm r,dB nm es,pU h 4 (dF ys)⟩:=by
 intro h' hh' Q hQ
 refine ⟨hF.1,fun C ρ U w vals hr hfr hvl=> ?_⟩
 obtain ⟨hl,ha'⟩:=IB (PO 4) _ _ ha
 have hd:∀ g,¬ jq (dH ρ [] []) g:=fun g ⟨k,o,n,hk⟩=>by simp [dH,get] at hk
 let C':Ctx:=⟨w,CP C w,(fun _=>False),(fun _=>none),0,(fun g hg=>hg.elim),(fun i l hl=>by cases hl),(fun _=>False),(fun _ h=>h.elim)⟩
 have hok:∀ g,CP C w g->aP C' (dH ρ [] []) w g:=fun g hg=>⟨.inl hg,hg.2,hd g⟩
 have hrc:HR C' (dH ρ [] []) (jN [] []) (gG 0 []) w:=by
  refine ⟨fun i o hi=>by simp [gG,dB,get] at hi,fun i _=>by simp [dH,get],fun i i' g o n o' n' h1 _=>absurd ⟨i,o,n,h1⟩ (hd g),rfl,rfl,rfl,Nat.le_refl _,
   fun g _ _ _=>rfl,fun g hg=>⟨hg.2,fun h=>h.elim,fun h=>h⟩,fun g ho=>absurd ho (hd g),fun i l hi=>by cases hi⟩
 have Pg:VL w (aP C' (dH ρ [] []) w) (dH ρ [] []) (jN [] []) xs vals:=by
  refine ⟨by rw [hl];exact hvl.1,fun i x u hi hu=> ?_⟩
  have hlt:i<ys.length:=by rw [<-hl];exact (List.getElem?_eq_some_iff.1 hi).1
  have hy:=List.getElem?_eq_getElem hlt
  have hxy:=si.cg (h':=h') 4 (dF ys) _ _ (ha' i x _ hi hy) (fun b hb=>IC (List.mem_of_getElem? hy) hb) hh'
  exact (VR.op hr 4 (hvl.2 i _ u hy hu) hxy).mono hok (fun _ _=>rfl) (fun _ h=>h) (fun _ _=> .inl rfl)
 refine (hF.2 C' _ _ w vals hrc (fun b hb=>by simp [jN] at hb) Pg).mono fun e w' hpost=> ?_
 obtain ⟨v,ρ1,U1,rfl,hr1,hv1⟩:=hpost
 obtain ⟨hR,hkeep⟩:=back (C':=C') (B:=[]) (nm:=nm) hr rfl (fun g=>by simp [C']) (fun i=>by simp [C']) hr1 (fun b hb=>by simp at hb) rfl (by simp) hes hm (cs:=[]) rfl (fun i cs h=>by simp at h) hfr (fun _ h=>h) (.inr ⟨rfl,hna⟩)
 refine ⟨v,sh nm r,_,iw ρ ρ1 nm es.length,Ac U nm es.length,rfl,hR,?_,hkeep,fun b hb=> ?_,?_⟩
 ·refine VR.Y1 (fun i hi=> ?_) (fun i hi=> .inr ⟨by omega,by omega⟩) hv1 hx hr0
  unfold iw
  rw [if_pos ⟨by omega,by omega⟩]
  congr 2;omega
 ·rcases hb with hb|hb
  ·exact .inl hb
  ·exact .inr ⟨hb.1,by omega⟩
 ·simpa [gq] using hQ
def CQ (run:RunT) (nm:Nat) (h:List (Nat×Ob)) (f:FuncId) (ys:List AV):Option Rec:=
 match mapA (uw h 4) ys with
 |some xs=>match run f xs [] [] with
  |some (vs,h')=>match ol 0 (vW 0 h' vs).eraseDups vs h' with
   |some (r,_,es)=>bif (decide (es.length<=8)&&dX es.length r)&&(na r&&es.all vX) then some ⟨sh nm r,dB nm es,pU h 4 (dF ys)⟩ else none
   |none=>none
  |none=>none
 |none=>none
theorem ahW {P:Program} {run:RunT} (hrun:fI P run) {nm:Nat} {h:List (Nat×Ob)} {f:FuncId} {ys:List AV} {r:Rec} (e:CQ run nm h f ys=some r):jH P nm f ys h r:=by
 simp only [CQ] at e
 split at e
 ·rename_i xs hx
  split at e
  ·rename_i vs h1 hr
   split at e
   ·rename_i r0 bs es hF
    obtain ⟨t,res,hv,hrun'⟩:=hrun _ _ _ _ _ _ hr
    obtain ⟨yh,hl,hes⟩:=Ao hv hF
    have hb0:bs=[]:=List.length_eq_zero_iff.1 hl
    subst hb0
    have hFn:=(hrun' _ _ _ yh).Cy
    cases hc:((decide (es.length<=8)&&dX es.length r0)&&(na r0&&es.all vX)) with
    |false=>rw [hc] at e;cases e
    |true=>
     rw [hc] at e
     simp only [cond_true,Option.some.injEq] at e
     subst e
     simp only [Bool.and_eq_true,decide_eq_true_eq,List.all_eq_true] at hc
     exact hFn.CQ nm hx hes (fun o ho=>ZH (hc.2.2 o ho)) hc.1.1 hc.1.2 hc.2.1
   ·cases e
  ·cases e
 ·cases e
def pV (run:RunT) (nm:Nat) (h:List (Nat×Ob)) (f:FuncId) (ys:List AV):Option Rec:=
 bif dx ys then (match run f ys [] [] with
  |some (vs,h')=>match ol 0 (vW 0 h' vs).eraseDups vs h' with
   |some (r,_,es)=>bif decide (es.length<=8)&&dX es.length r then some ⟨sh nm r,dB nm es,[]⟩ else none
   |none=>none
  |none=>none)
 else match ahP h ys with
 |[]=>match jQ h [] [] ys with
  |some xs=>match run f xs [] [] with
   |some (vs,h')=>match ol 0 (vW 0 h' vs).eraseDups vs h' with
    |some (r,_,es)=>bif decide (es.length<=8)&&dX es.length r then
     (bif na r&&es.all vX then some ⟨sh nm r,dB nm es,dF ys⟩
      else bif pM h (dF ys)&&dx xs then some ⟨sh nm r,dB nm es++kills (dF ys),dF ys⟩ else none)
     else none
    |none=>none
   |none=>match (bif (om ys).isEmpty then none else Ar (vW 0) run nm h f ys [] (om ys).eraseDups ((Cz h (dF ys)).filter fun b=> !(om ys).contains b)) with
    |some r=>some r
    |none=>Ar (vW 0) run nm h f ys [] (Cz h (dF ys)).eraseDups []
  |none=>none
 |B=>match (bif (om ys).isEmpty then none else CQ run nm h f ys) with
  |some r=>some r
  |none=>match Ar (vW B.length) run nm h f ys B [] (Cz h (dF ys++cont h B)).eraseDups with
  |some r=>some r
  |none=>bif (om ys).isEmpty then none else Ar (vW B.length) run nm h f ys B (om ys).eraseDups ((Cz h (dF ys++cont h B)).eraseDups.filter fun b=> !(om ys).contains b)
theorem qM {P:Program} {run:RunT} (hrun:fI P run) {nm:Nat} {h:List (Nat×Ob)} {f:FuncId} {ys:List AV} {r:Rec} (e:pV run nm h f ys=some r):jH P nm f ys h r:=by
 have hfn:∀ {xs:List AV} {vs:List AV} {h':List (Nat×Ob)} {r0:AV} {bs:List (List AV)} {es:List Ob} {O:List Nat},run f xs [] []=some (vs,h')->ol 0 O vs h'=some (r0,bs,es)->Fn P f xs [] r0 [] es/\es.all rowOk=true:=by
  intro xs vs h' r0 bs es O hr hF
  obtain ⟨t,res,hv,hrun'⟩:=hrun _ _ _ _ _ _ hr
  obtain ⟨yh,hl,hes⟩:=Ao hv hF
  have hb0:bs=[]:=List.length_eq_zero_iff.1 hl
  subst hb0
  exact ⟨(hrun' _ _ _ yh).Cy,hes⟩
 unfold pV at e
 cases hp:dx ys with
 |true=>
  rw [hp] at e
  simp only [cond_true] at e
  split at e
  ·rename_i vs h' hr
   split at e
   ·rename_i r0 bs es hF
    obtain ⟨hFn,hes⟩:=hfn hr hF
    cases hc:(decide (es.length<=8)&&dX es.length r0) with
    |false=>rw [hc] at e;cases e
    |true=>
     rw [hc] at e
     simp only [cond_true,Option.some.injEq] at e
     subst e
     simp only [Bool.and_eq_true,decide_eq_true_eq] at hc
     exact hFn.Ii hp hes hc.1 hc.2
   ·cases e
  ·cases e
 |false=>
  rw [hp] at e
  simp only [cond_false] at e
  split at e
  ·split at e
   ·rename_i xs hx
    split at e
    ·rename_i vs h' hr
     split at e
     ·rename_i r0 bs es hF
      obtain ⟨hFn,hes⟩:=hfn hr hF
      have ha:au h [] [] xs ys:=pR ys xs hx
      cases hc:(decide (es.length<=8)&&dX es.length r0) with
      |false=>rw [hc] at e;cases e
      |true=>
       rw [hc] at e
       simp only [cond_true] at e
       simp only [Bool.and_eq_true,decide_eq_true_eq] at hc
       cases hn:(na r0&&es.all vX) with
       |true=>
        rw [hn] at e
        simp only [cond_true,Option.some.injEq] at e
        subst e
        simp only [Bool.and_eq_true,List.all_eq_true] at hn
        exact hFn.Ch nm ha hes (fun o ho=>ZH (hn.2 o ho)) hc.1 hc.2 hn.1
       |false=>
        rw [hn] at e
        simp only [cond_false] at e
        cases hz:(pM h (dF ys)&&dx xs) with
        |false=>rw [hz] at e;cases e
        |true=>
         rw [hz] at e
         simp only [cond_true,Option.some.injEq] at e
         subst e
         simp only [Bool.and_eq_true] at hz
         intro h2 hh Q hQ
         refine Zb (dF ys) (fun b hb=> ?_) (Af (h:=h) hh xs ys (fun b hb=>hb) ha) ?_
         ·obtain ⟨e1,sz,PN,hx1⟩:=Ih _ hz.1 b hb
          exact ⟨e1,sz,PN,by rw [hh b hb];exact hx1⟩
         ·exact (hFn.Ii (h:=kills (dF ys)++h2) hz.2 hes hc.1 hc.2) _ (fun _ _=>rfl) Q (by simpa only [List.append_assoc] using hQ)
     ·cases e
    ·split at e
     ·rename_i r1 hr1
      cases e
      generalize (om ys).isEmpty=q at hr1
      cases q with
      |true=>cases hr1
      |false=>rw [cond_false] at hr1;exact IA hrun hr1
     ·exact IA hrun e
   ·cases e
  ·split at e
   ·rename_i r1 hr1
    cases e
    generalize (om ys).isEmpty=q at hr1
    cases q with
    |true=>cases hr1
    |false=>exact ahW hrun hr1
   split at e
   ·rename_i r1 hr1
    cases e
    exact IA hrun hr1
   ·generalize (om ys).isEmpty=q at e
    cases q with
    |true=>cases e
    |false=>exact IA hrun e
end Go.Eng
