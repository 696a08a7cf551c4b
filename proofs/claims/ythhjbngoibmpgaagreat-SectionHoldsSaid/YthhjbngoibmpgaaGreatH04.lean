/-
  Part of a proof: lemmas and definitions of this work.
  No condition.
-/
import Derived.Test.YthhjbngoibmpgaaGreatH03
set_option linter.all false
set_option maxRecDepth 100000
set_option maxHeartbeats 8000000
namespace Go.Eng
open Go
theorem VR.wY {w w':World} {ok ok':Nat->Prop} {ρ ρ':Nat->Loc} {U U':Nat->Prop} {S:List (Nat×Nat)} (hS:∀ k b,get S k=some b->U' k/\ρ' k=ρ b) {y:AV} {u:Value} (h:VR w ok ρ U y u) (hn:na y=true):
 ∀ x,rv [] S [] x y->VR w' ok' ρ' U' x u:=by
 have key:VR w' ok' ρ U y u:=by
  induction h with
  |p h=>exact .p (h.na hn)
  |agg hl _ ih=>exact .agg hl fun i c u h1 h2=>ih i c u h1 h2 (jW _ (by simpa [na] using hn) i c h1)
  |aN hl _ ih=>exact .aN hl fun i c u h1 h2=>ih i c u h1 h2 (jW _ (by simpa [na] using hn) i c h1)
  |fn hf hl _ ih=>exact .fn hf hl fun i c u h1 h2=>ih i c u h1 h2 (jW _ (by simpa [na] using hn) i c h1)
  |own hu h=>exact .own hu h
  |ptr=>simp [na] at hn
  |rp=>simp [na] at hn
  |mp=>simp [na] at hn
 exact key.rn hS (fun _ h=>h) (fun _ _=>rfl)
theorem dO.wY {w':World} {ok ok':Nat->Prop} {ρ ρ':Nat->Loc} {U U':Nat->Prop} {S:List (Nat×Nat)} (hS:∀ k b,get S k=some b->U' k/\ρ' k=ρ b) {l:Loc} {x y:Ob} (h:dO w' ok ρ U l y) (hn:qx y)
 (hx:aR [] S [] x y):dO w' ok' ρ' U' l x:=by
 cases y with
 |box cs=>
  cases x with
  |box ds=>
   simp only [aR] at hx
   obtain ⟨g,o,n,e,cells,h1,h2,h3,h4,h5⟩:=h
   have h6:=fT _ _ hx
   refine ⟨g,o,n,e,cells,h1,h2,h3,by omega,fun j c hj=> ?_⟩
   obtain ⟨z,h7,h8⟩:=fU _ _ hx j c hj
   obtain ⟨u,hu,hv⟩:=h5 j z h7
   exact ⟨u,hu,hv.wY hS (hn z (List.mem_of_getElem? h7)) c h8⟩
  |_=>simp only [aR] at hx
 |row e sz xs=>
  cases x with
  |row e' sz' ys=>
   simp only [aR] at hx
   obtain ⟨rfl,rfl,rfl⟩:=hx
   rcases h with h|⟨g,o,n,cells,h1,h2,h3,h4,h5,h6⟩
   ·exact .inl h
   ·refine .inr ⟨g,o,n,cells,h1,h2,h3,h4,h5,fun k x j c hk hj=> ?_⟩
    obtain ⟨u,hu,h1c,hv⟩:=h6 k x j c hk hj
    exact ⟨u,hu,h1c,hv.na (hn x (List.mem_of_getElem? hk) c (List.mem_of_getElem? hj))⟩
  |_=>simp only [aR] at hx
 |_=>simp [qx] at hn
section
variable {P:Program} {f:FuncId} {xs ys:List AV} {bs bs' cs':List (List AV)} {es es':List Ob} {r r':AV} {h:List (Nat×Ob)} {B:List Nat} {nm:Nat} {Q:AV->List (Nat×Ob)->Prop}
theorem dW.KG (hF:dW P f xs bs [] r bs' es) (ha:au h (dw B []) [] xs ys)
 (hbl:bs.length=B.length) (hB4:B.length<=4) (DF:B.Nodup)
 (hb:∀ (i b:Nat),B[i]? =some b->∃ cs cs0,bs[i]? =some cs/\get h b=some (.box cs0)/\au [] (dw B []) [] cs cs0)
 (VN:bs'.length=B.length) (hcl':cs'.length=B.length) (hb':∀ (i:Nat) (c:List AV),cs'[i]? =some c->∃ x,bs'[i]? =some x/\jD x=true/\au [] (iU B nm es.length) [] c x)
 (hel:es'.length=es.length) (hm:es.length<=8) (he:∀ (i:Nat) (y:Ob),es'[i]? =some y->∃ x,es[i]? =some x/\qx x/\aR [] (iU B nm es.length) [] y x)
 (hna:na r=true) (hr':rv [] (iU B nm es.length) [] r' r) (hQ:Q r' (bS nm es'++(eH B cs'++h))):nE P nm f ys h Q:=by
 refine ⟨hF.1,fun C ρ U w vals hr hfr hvl=> ?_⟩
 have oL:∀ b ∈ B,U b/\∃ cs0,get h b=some (.box cs0):=fun b fB=>by
  obtain ⟨i,hi⟩:=List.mem_iff_getElem?.1 fB
  obtain ⟨cs,cs0,_,h2,_⟩:=hb i b hi
  exact ⟨(hr.hp b _ h2).1,cs0,h2⟩
 let C':Ctx:=⟨w,ay C (bK ρ (dw B []) []) w,(fun g=>∃ b ∈ B,∃ o n,ρ b=Loc.at g o n),(fun i=>(B[i]?).map ρ),0,(fun g hg=>by
  obtain ⟨b,fB,o,n,hl⟩:=hg
  obtain ⟨i,hi⟩:=List.mem_iff_getElem?.1 fB
  exact ⟨i,o,n,by simp [hi,hl]⟩),(fun i l hl=>by
  rcases Nat.lt_or_ge i B.length with h1|h1
  ·omega
  ·simp [List.getElem?_eq_none h1] at hl),(fun _=>False),(fun _ h=>h.elim)⟩
 let ρc:Nat->Loc:=bK ρ (dw B []) []
 let Uc:Nat->Prop:=fun k=>∃ b,get (dw B []) k=some b
 have mW:∀ k b,get (dw B []) k=some b->ρc k=ρ b:=fun k b hk=>rZ hk
 have oM:∀ k g o n,ρc k= .at g o n->∃ b,get (dw B []) k=some b/\ρ b= .at g o n:=fun k g o n hk=>by
  cases hs:get (dw B []) k with
  |none=>
   have:ρc k= .dead:=by show bK ρ (dw B []) [] k=_;simp [bK,hs]
   rw [this] at hk;cases hk
  |some b=>exact ⟨b,rfl,by rw [<-mW k b hs];exact hk⟩
 have hown0:∀ g,gX ρc g->gX ρ g:=fun g ⟨k,o,n,hk⟩=>by
  obtain ⟨b,_,hb⟩:=oM k g o n hk
  exact ⟨b,o,n,hb⟩
 have KU:∀ g,ay C ρc w g->ay C' ρc w g:=fun g hg=>⟨.inl hg,hg.2.1,hg.2.2⟩
 have hok:∀ g,ay C ρ w g->ay C' ρc w g:=fun g hg=>KU g (Ku hg)
 have wW:∀ k b,get (dw B []) k=some b->Uc k/\ρc k=ρ b:=fun k b hk=>⟨⟨b,hk⟩,mW k b hk⟩
 have DI:∀ k,Uc k->k<8:=fun k ⟨b,hk⟩=>by
  rcases nJ hk with h1|⟨h1,h2⟩
  ·have:=(List.getElem?_eq_some_iff.1 h1).1;omega
  ·simp at h2
 have hr0:HR C' ρc Uc (outs bs []) w:=by
  refine ⟨fun k o hk=> ?_,fun k hk=> ?_,fun k k' g o n o' n' h1 h2=> ?_,rfl,rfl,rfl,Nat.le_refl _,fun g _ _ _=>rfl,
   fun g hg=>⟨hg.2.1,fun ⟨b,fB,o,n,hl⟩=>by
    obtain ⟨i,hi⟩:=List.mem_iff_getElem?.1 fB
    have hs:=wV (G:=[]) hi hB4
    exact hg.2.2 ⟨i,o,n,(mW i b hs).trans hl⟩,fun h=>h⟩,fun g ho=> ?_,fun i l hi=> ?_⟩
  ·unfold outs at hk
   rw [get_append,dM,gH] at hk
   simp only [Nat.zero_le,if_true,Nat.sub_zero,List.getElem?_map] at hk
   cases hbk:bs[k]? with
   |some cs=>
    rw [hbk] at hk
    simp only [Option.map_some,Option.some.injEq] at hk
    subst hk
    have hlt:k<B.length:=by rw [<-hbl];exact (List.getElem?_eq_some_iff.1 hbk).1
    have hib:B[k]? =some B[k]:=List.getElem?_eq_getElem hlt
    obtain ⟨cs1,cs0,h1,h2,h3⟩:=hb k _ hib
    rw [hbk] at h1;cases h1
    have hs:=wV (G:=[]) hib hB4
    refine ⟨⟨_,hs⟩,?_⟩
    rw [mW k _ hs]
    exact (hr.hp _ _ h2).2.rn wW hok (fun _ _=>rfl) (fun _ _ _ _=>rfl) (by simp only [aR];exact h3)
   |none=>
    rw [hbk] at hk
    simp only [Option.map_none] at hk
    simp [bS,get] at hk
  ·cases hs:get (dw B []) k with
   |none=>show bK ρ (dw B []) [] k=_;simp [bK,hs]
   |some b=>
    unfold outs at hk
    rw [get_append,dM,gH] at hk
    simp only [Nat.zero_le,if_true,Nat.sub_zero,List.getElem?_map] at hk
    rcases nJ hs with h1|⟨h1,h2⟩
    ·have hlt:k<bs.length:=by rw [hbl];exact (List.getElem?_eq_some_iff.1 h1).1
     rw [List.getElem?_eq_getElem hlt] at hk
     simp at hk
    ·simp at h2
  ·obtain ⟨b,hs,hl⟩:=oM k g o n h1
   obtain ⟨b',hs',hl'⟩:=oM k' g o' n' h2
   have e:=hr.inj b b' g o n o' n' hl hl'
   subst e
   rcases nJ hs with h3|⟨h3,h4⟩<;>rcases nJ hs' with h5|⟨h5,h6⟩
   ·obtain ⟨p1,q1⟩:=List.getElem?_eq_some_iff.1 h3
    obtain ⟨p2,q2⟩:=List.getElem?_eq_some_iff.1 h5
    exact (List.getElem_inj DF).1 (q1.trans q2.symm)
   ·exact absurd h6 (by simp)
   ·exact absurd h4 (by simp)
   ·simp at h4
  ·obtain ⟨k,o,n,hk⟩:=ho
   obtain ⟨b,hs,hl⟩:=oM k g o n hk
   refine ⟨?_,(hr.bN g ⟨b,o,n,hl⟩).2⟩
   rcases nJ hs with h3|⟨h3,h4⟩
   ·exact .inl ⟨b,List.mem_of_getElem? h3,o,n,hl⟩
   ·simp at h4
  ·have hlt:i<B.length:=by
    rcases Nat.lt_or_ge i B.length with h1|h1
    ·exact h1
    ·simp [C',List.getElem?_eq_none h1] at hi
   have hib:B[i]? =some B[i]:=List.getElem?_eq_getElem hlt
   obtain ⟨cs,cs1,h1,h2,h3⟩:=hb i _ hib
   have hs:=wV (G:=[]) hib hB4
   refine ⟨?_,⟨_,hs⟩,cs,?_⟩
   ·rw [mW i _ hs]
    simp only [C',hib,Option.map_some,Option.some.injEq] at hi
    exact hi
   ·exact uU h1
 have sH:VL w (ay C' ρc w) ρc Uc xs vals:=by
  have hl:=fT _ _ ha
  refine ⟨by rw [hl];exact hvl.1,fun i x u hi hu=> ?_⟩
  obtain ⟨y,hy,hxy⟩:=fU _ _ ha i x hi
  exact (jC hr (hvl.2 i y u hy hu) x hxy).mono KU (fun _ _=>rfl) (fun k hk=>by
   rcases hk with hk|hk
   ·exact qo hk
   ·simp at hk) (fun _ _=> .inl rfl)
 refine (hF.2 C' ρc Uc w vals hr0 DI sH).mono fun e w' hpost=> ?_
 obtain ⟨v,ρ1,U1,rfl,hr1,hv1⟩:=hpost
 let ρ2:Nat->Loc:=fun k=>if nm<=k/\k<nm+es.length then ρ1 (4+(k - nm)) else ρ k
 let U2:Nat->Prop:=fun k=>U k\/(nm<=k/\k<nm+es.length)
 have sI:∀ k,nm<=k/\k<nm+es.length->ρ2 k=ρ1 (4+(k - nm)):=fun k hk=>by show (if _ then _ else _)=_;rw [if_pos hk]
 have mX:∀ k,U k->ρ2 k=ρ k:=fun k hk=>by
  show (if _ then _ else _)=_
  rw [if_neg (fun hh=>hfr k hk ⟨hh.1,by omega⟩)]
 have hsz:w.heap.size<=w'.heap.size:=hr1.size
 have hoff:∀ i g o n,i<es.length->ρ1 (4+i)= .at g o n->w.heap.size<=g/\g<w'.heap.size:=fun i g o n hi hl=>by
  obtain ⟨h1,h2⟩:=hr1.bN g ⟨_,o,n,hl⟩
  refine ⟨?_,h2⟩
  rcases h1 with h1|h1|h1
  ·obtain ⟨b,o',n',hb⟩:=C'.rO g h1
   obtain ⟨h3,_,_⟩:=hr1.fix b _ hb
   have:=hr1.inj (4+i) b g o n o' n' hl h3
   have:=C'.wh b _ hb
   omega
  ·exact h1.elim
  ·exact h1
 have hold:∀ k g o n,ρ k= .at g o n->g<w.heap.size:=fun k g o n hl=>(hr.bN g ⟨k,o,n,hl⟩).2
 have hheap:∀ g,g<w.heap.size->(∀ b ∈ B,∀ o n,ρ b≠.at g o n)->w'.heap[g]? =w.heap[g]? :=fun g hg h1=>
  hr1.old g hg (fun ⟨b,fB,o,n,hl⟩=>h1 b fB o n hl) (fun h=>h)
 have hcase:∀ k g o n,ρ2 k= .at g o n->(∃ i,k=nm+i/\i<es.length/\ρ1 (4+i)= .at g o n)\/ρ k= .at g o n:=fun k g o n hk=>by
  by_cases h1:nm<=k/\k<nm+es.length
  ·rw [sI k h1] at hk
   exact .inl ⟨k - nm,by omega,by omega,hk⟩
  ·have:ρ2 k=ρ k:=by show (if _ then _ else _)=_;rw [if_neg h1]
   rw [this] at hk
   exact .inr hk
 have hok2:∀ g,ay C ρ w g->ay C ρ2 w' g:=fun g hg=>⟨hg.1,by have:=hg.2.1;omega,fun ⟨k,o,n,hk⟩=>by
  rcases hcase k g o n hk with ⟨i,rfl,hi,hl⟩|hl
  ·have:=(hoff i g o n hi hl).1
   have:=hg.2.1;omega
  ·exact hg.2.2 ⟨k,o,n,hl⟩⟩
 have qy:∀ g,ay C ρ w g->w'.heap[g]? =w.heap[g]? :=fun g hg=>hheap g hg.2.1 (fun b _ o n hl=>hg.2.2 ⟨b,o,n,hl⟩)
 have lS:Later U ρ ρ2:=fun k hk=> .inl (mX k hk)
 have hSo:∀ k i,get (iU B nm es.length) k=some i->U2 k/\ρ2 k=ρ1 i:=fun k i hk=>by
  rcases KL hk with h1|⟨h1,h2,rfl⟩
  ·have hkB:=List.mem_of_getElem? h1
   have hfx:=(hr1.fix i (ρ k) (by show (B[i]?).map ρ=_;rw [h1];rfl)).1
   exact ⟨.inl (oL k hkB).1,by rw [mX k (oL k hkB).1,hfx]⟩
  ·exact ⟨.inr ⟨h1,h2⟩,sI k ⟨h1,h2⟩⟩
 refine ⟨v,r',_,ρ2,U2,rfl,⟨fun k o hk=> ?_,fun k hk=> ?_,fun k k' g o n o' n' h1 h2=> ?_,hr1.os.trans hr.os,hr1.tape.trans hr.tape,hr1.output.trans hr.output,Nat.le_trans hr.size hsz,
  fun g hg he hv=> ?_,hr.jb,fun g ho=> ?_,fun b l hb2=> ?_⟩,hv1.wY hSo hna r' hr',fun x u hx=>hx.mono hok2 qy (fun k hk=> .inl hk) lS,fun b hb2=> ?_,hQ⟩
 ·rw [get_append,gH] at hk
  by_cases hin:nm<=k/\k<nm+es.length
  ·have hi:k - nm<es'.length:=by omega
   rw [if_pos hin.1,List.getElem?_eq_getElem hi] at hk
   cases hk
   obtain ⟨x,hx1,hxn,hx2⟩:=he (k - nm) _ (List.getElem?_eq_getElem hi)
   refine ⟨.inr hin,?_⟩
   rw [sI k hin]
   have hgt:get (outs bs' es) (4+(k - nm))=some x:=zI (by omega) hx1
   exact (hr1.hp _ _ hgt).2.wY hSo hxn hx2
  ·have hno:(if nm<=k then es'[k - nm]? else none)=none:=by
    split
    ·exact List.getElem?_eq_none (by omega)
    ·rfl
   rw [hno] at hk
   simp only [get_append] at hk
   cases hbx:get (eH B cs') k with
   |some o'=>
    rw [hbx] at hk;cases hk
    obtain ⟨i,c2,h1,h2,rfl⟩:=si B cs' k _ hbx
    have hkB:=List.mem_of_getElem? h1
    refine ⟨.inl (oL k hkB).1,?_⟩
    obtain ⟨x,hx1,hxn,hx2⟩:=hb' i c2 h2
    have hfx:=(hr1.fix i (ρ k) (by show (B[i]?).map ρ=_;rw [h1];rfl)).1
    rw [mX k (oL k hkB).1,<-hfx]
    exact (hr1.hp i _ (uU hx1)).2.wY hSo (fun c hc=>by
     obtain ⟨j,hj⟩:=List.mem_iff_getElem?.1 hc
     exact jW _ hxn j c hj) (by simp only [aR];exact hx2)
   |none=>
    rw [hbx] at hk
    simp only at hk
    obtain ⟨oK,ho⟩:=hr.hp k o hk
    refine ⟨.inl oK,?_⟩
    rw [mX k oK]
    refine dO.mono hok2 qy (fun k hk=> .inl hk) lS (fun g o n hl=>hheap g (hold k g o n hl) (fun b fB o' n' hb2=> ?_)) ho
    have:=hr.inj k b g o n o' n' hl hb2
    subst this
    exact zJ B cs' k hbx hcl'.symm fB
 ·rw [get_append,gH] at hk
  have hin:¬ (nm<=k/\k<nm+es.length):=fun hh=>by
   rw [if_pos hh.1,List.getElem?_eq_getElem (show k - nm<es'.length by omega)] at hk
   cases hk
  have hno:(if nm<=k then es'[k - nm]? else none)=none:=by
   split
   ·exact List.getElem?_eq_none (by omega)
   ·rfl
  rw [hno] at hk
  simp only [get_append] at hk
  show (if _ then _ else _)=_
  rw [if_neg hin]
  cases hbx:get (eH B cs') k with
  |some o'=>rw [hbx] at hk;cases hk
  |none=>
   rw [hbx] at hk
   simp only at hk
   exact hr.hd k hk
 ·rcases hcase k g o n h1 with ⟨i,rfl,hi,hl⟩|hl<;>rcases hcase k' g o' n' h2 with ⟨i',rfl,hi',hl'⟩|hl'
  ·have:=hr1.inj _ _ g o n o' n' hl hl'
   omega
  ·have:=(hoff i g o n hi hl).1
   have:=hold _ g o' n' hl';omega
  ·have:=(hoff i' g o' n' hi' hl').1
   have:=hold _ g o n hl;omega
  ·exact hr.inj _ _ g o n o' n' hl hl'
 ·have hg':g<w.heap.size:=Nat.lt_of_lt_of_le hg hr.size
  rw [<-hr.old g hg he hv]
  have key:∀ b o n,ρ b≠.at g o n:=fun b o n hl=>by
   rcases (hr.bN g ⟨b,o,n,hl⟩).1 with h1|h1|h1
   ·exact he h1
   ·exact hv h1
   ·omega
  exact hheap g hg' (fun b _=>key b)
 ·obtain ⟨k,o,n,hk⟩:=ho
  rcases hcase k g o n hk with ⟨i,rfl,hi,hl⟩|hl
  ·have h1:=hoff i g o n hi hl
   exact ⟨.inr (.inr (Nat.le_trans hr.size h1.1)),h1.2⟩
  ·exact ⟨(hr.bN g ⟨k,o,n,hl⟩).1,by have:=hold k g o n hl;omega⟩
 ·obtain ⟨h1,h2,cs0,h3⟩:=hr.fix b l hb2
  refine ⟨by rw [mX b h2];exact h1,.inl h2,?_⟩
  have hin:¬ (nm<=b/\b<nm+es.length):=fun hh=>hfr b h2 ⟨hh.1,by omega⟩
  have hno:(if nm<=b then es'[b - nm]? else none)=none:=by
   split
   ·exact List.getElem?_eq_none (by omega)
   ·rfl
  rw [get_append,gH,hno]
  simp only [get_append]
  cases hbx:get (eH B cs') b with
  |some o'=>
   obtain ⟨i,c2,_,_,rfl⟩:=si B cs' b _ hbx
   exact ⟨c2,rfl⟩
  |none=>
   exact ⟨cs0,h3⟩
 ·rcases hb2 with h1|h1
  ·exact .inl h1
  ·exact .inr ⟨h1.1,by omega⟩
end
end Go.Eng
namespace Go.Eng
open Go
def wZ:cK:= .block 999999 (.loop (.exit 999999))
def mark (p:List av->Bool):cK->cK
 | .region ops d=>bif p ops then .seq wZ (.region ops d) else .region ops d
 | .seq a b=> .seq (mark p a) (mark p b)
 | .cond c x y=> .cond c (mark p x) (mark p y)
 | .block id c=> .block id (mark p c)
 | .loop c=> .loop (mark p c)
 |c=>c
section
variable {P:Program} {C:Ctx}
theorem VW {p:List av->Bool} (hm:P.follows .mixedOrders=true) (c:Code):∀ (sc:cK),fG P c=some sc->iH C.nt sc=true->
 ∀ (Q:Exit->St->Prop) (K:Exit->Act->World->Prop) (s:St) (a:Act) (w:World),At C s a w->fu P (mark p sc) Q s->
  (∀ e s' a' w',At C s' a' w'->Q e s'->K e a' w')->c.wp P K a w:=by
 induction c with
 |skip=>
  intro sc hs hok Q K s a w hA hw hK
  cases hs
  exact rX hm _ _ rfl hok Q K s a w hA hw hK
 |region id ops draw=>
  intro sc hs hok Q K s a w hA hw hK
  have hs0:=hs
  simp only [fG] at hs
  split at hs
  ·rename_i l hl
   cases hs
   simp only [mark] at hw
   cases hp:p l with
   |false=>
    rw [hp] at hw
    exact rX hm _ _ hs0 hok Q K s a w hA hw hK
   |true=>
    rw [hp] at hw
    obtain ⟨α,S,μ,a0,hW,hb⟩:=hw
    exact rX hm _ _ hs0 hok Q K (S a0) a w (hW.at hA) (hb a0) hK
  ·cases hs
 |seq x y rY ihy=>
  intro sc hs hok Q K s a w hA hw hK
  simp only [fG] at hs
  split at hs
  ·rename_i x' hx
   split at hs
   ·rename_i y' hy
    cases hs
    simp only [iH,Bool.and_eq_true] at hok
    refine wp_seq (rY x' hx hok.1 _ _ s a w hA hw fun e s' a' w' hA' hQ=> ?_)
    cases e with
    |normal=>exact ihy y' hy hok.2 Q K s' a' w' hA' hQ hK
    |exit i=>exact hK _ _ _ _ hA' hQ
    |goto l=>exact hK _ _ _ _ hA' hQ
    |ret=>exact hK _ _ _ _ hA' hQ
    |panic ch=>exact hK _ _ _ _ hA' hQ
    |outgrown=>exact hK _ _ _ _ hA' hQ
   ·cases hs
  ·cases hs
 |cond c x y rY ihy=>
  intro sc hs hok Q K s a w hA hw hK
  simp only [fG] at hs
  split at hs
  ·rename_i x' hx
   split at hs
   ·rename_i y' hy
    cases hs
    simp only [iH,Bool.and_eq_true] at hok
    simp only [mark,fu] at hw
    unfold mO at hw
    split at hw
    ·rename_i b hb
     have qm:=hA
     obtain ⟨ρ,U,hS,hU⟩:=hA
     have hc:=(aP hS.tm hb).bR
     exact wp_cond_split hc (fun hb=>rY x' hx hok.1 Q K s a w qm (hw.1 hb) hK) (fun hb=>ihy y' hy hok.2 Q K s a w qm (hw.2 hb) hK)
    ·exact hw.elim
    ·exact hw.elim
   ·cases hs
  ·cases hs
 |block id c ih=>
  intro sc hs hok Q K s a w hA hw hK
  simp only [fG] at hs
  split at hs
  ·rename_i c' hc
   cases hs
   simp only [iH] at hok
   refine wp_block (ih c' hc hok _ _ s a w hA hw fun e s' a' w' hA' hQ=> ?_)
   cases e with
   |exit i=>
    simp only [wE] at hQ
    simp only [Exit.inBlock]
    split
    ·rename_i h;rw [if_pos h] at hQ;exact hK _ _ _ _ hA' hQ
    ·rename_i h;rw [if_neg h] at hQ;exact hK _ _ _ _ hA' hQ
   |normal=>exact hK _ _ _ _ hA' hQ
   |goto l=>exact hK _ _ _ _ hA' hQ
   |ret=>exact hK _ _ _ _ hA' hQ
   |panic ch=>exact hK _ _ _ _ hA' hQ
   |outgrown=>exact hK _ _ _ _ hA' hQ
  ·cases hs
 |loop c ih=>
  intro sc hs hok Q K s a w hA hw hK
  simp only [fG] at hs
  split at hs
  ·rename_i c' hc
   cases hs
   simp only [iH] at hok
   obtain ⟨α,S,μ,a0,hW,hb⟩:=hw
   refine wp_loop (fun a w=>∃ x,At C (S x) a w) (uQ C S μ) ⟨a0,hW.at hA⟩ fun a w hI=> ?_
   obtain ⟨x0,hx0⟩:=hI
   obtain ⟨_,x,hx,hA'⟩:=zG (μ:=μ) hx0
   refine ih c' hc hok _ _ (S x) a w hA' (hb x) fun e s' a' w' kI hQ=> ?_
   cases e with
   |normal=>
    obtain ⟨x',hlt,hW'⟩:=hQ
    have h1:=hW'.at kI
    refine ⟨⟨x',h1⟩,?_⟩
    have:=(zG (μ:=μ) h1).1
    omega
   |exit i=>exact hK _ _ _ _ kI hQ
   |goto l=>exact hK _ _ _ _ kI hQ
   |ret=>exact hK _ _ _ _ kI hQ
   |panic ch=>exact hK _ _ _ _ kI hQ
   |outgrown=>exact hK _ _ _ _ kI hQ
  ·cases hs
 |exit id=>
  intro sc hs hok Q K s a w hA hw hK
  cases hs
  exact rX hm _ _ rfl hok Q K s a w hA hw hK
 |ret=>
  intro sc hs hok Q K s a w hA hw hK
  cases hs
  exact rX hm _ _ rfl hok Q K s a w hA hw hK
 |_=>intro sc hs;simp [fG] at hs
end
theorem VX {P:Program} {Q:Exit->St->Prop} {c:cK} {s:St} (h:go P [.code c] Q s.n s.t s.h):fu P c Q s:=by
 have e:(fun (e:Exit) (s':St)=>match e with
  | .normal=>gJ P Q [] s'
  | .exit id=>gJ.eO P Q id [] s'
  |e=>Q e s')=Q:=by funext e s';cases e<;>rfl
 have h':fu P c (fun (e:Exit) (s':St)=>match e with
  | .normal=>gJ P Q [] s'
  | .exit id=>gJ.eO P Q id [] s'
  |e=>Q e s') s:=h
 rw [e] at h'
 exact h'
theorem Fn.zW {P:Program} {f:FuncId} {sc:cK} {res:List gY} {nt:Nat} (p:List av->Bool) (hok:aF P f sc res nt) {xs:List AV} {bs:List (List AV)} {r:AV} {bs':List (List AV)} {es:List Ob}
 (hn:xs.length<=nt) (hgo:go P [.code (mark p sc)] (zO res r bs' es) 8 (lT 0 xs) (dM 0 bs)):Fn P f xs bs r bs' es:=by
 obtain ⟨⟨fn,c,hf,hnm,hb,hs,hres,hr4,rfl⟩,hoc,hm⟩:=hok
 refine ⟨⟨fn,hf,hnm,by rw [hb];rfl⟩,fun C ρ U w vals hr hU hv=> ?_⟩
 let C1:Ctx:={C with nt:=fn.ntmps}
 have hr1:HR C1 ρ U (dM 0 bs) w:=⟨hr.hp,hr.hd,hr.inj,hr.os,hr.tape,hr.output,hr.size,hr.old,hr.jb,hr.bN,hr.fix⟩
 refine calls_of_wp hf hb (VW (p:=p) (C:=C1) hm c sc hs hoc _ _ ⟨8,lT 0 xs,dM 0 bs⟩ _ w ⟨ρ,U,⟨hr1,fun k x hk=> ?_,rfl,?_⟩,fun b hb=>by have:=hU b hb;simp only;omega⟩ (VX hgo) fun e s a w' hA hQ=> ?_)
 ·rw [zN] at hk
  simp only [Nat.zero_le,if_true,Nat.sub_zero] at hk
  have hlt:k<vals.size:=by rw [<-hv.1];exact (List.getElem?_eq_some_iff.1 hk).1
  refine ⟨vals[k],?_,hv.2 k x _ hk (Array.getElem?_eq_getElem hlt)⟩
  simp [Array.getElem?_append,hlt]
 ·have:=hv.1
  simp only [Array.size_append,Array.size_replicate]
  show _=fn.ntmps
  omega
 ·have fin:Fin res r bs' es s.t s.h->a.defers=[]/\∃ v,(results fn a.tmps).run P w'= .ok v w'/\∃ v_1 ρ' U',Ending.returned v=Ending.returned v_1/\HR C ρ' U' (outs bs' es) w'/\VR w' (ay C ρ' w') ρ' U' r v_1:=fun hF=>by
   obtain ⟨S,N,ys,h1,h2,h3,h4,h5⟩:=hF
   obtain ⟨ρ1,U1,hS,_⟩:=hA
   obtain ⟨vs,h6,h7,h8,h9⟩:=wT (P:=P) hS.hr hS.tm fn.results.toList res ys hres h1
   refine ⟨hS.defers,_,Dk a.tmps w' rfl h6 hr4 h8,_,bK ρ1 S N,iK S N,rfl,?_,?_⟩
   ·have:=uR hS.hr h2 h3 h4
    exact ⟨this.hp,this.hd,this.inj,this.os,this.tape,this.output,this.size,this.old,this.jb,this.bN,this.fix⟩
   ·exact jC hS.hr (Dl (by omega) h9) r h5
  cases e with
  |normal=>exact fin hQ
  |ret=>exact fin hQ
  |exit i=>exact hQ.elim
  |goto l=>exact hQ.elim
  |panic ch=>exact hQ.elim
  |outgrown=>exact hQ.elim
section
variable {P:Program} {k:List It} {Q:Exit->St->Prop} {n:Nat} {t:List (Nat×AV)} {h:List (Nat×Ob)} {p:List av->Bool}
def zX (P:Program) (b:Bool) (ops:List av) (d:Bool) (k:List It) (Q:Exit->St->Prop) (n:Nat) (t:List (Nat×AV)) (h:List (Nat×Ob)):Prop:=
 go P (.code (bif b then .seq wZ (.region ops d) else .region ops d)::k) Q n t h
def qB (P:Program) (k:List It) (Q:Exit->St->Prop) (n:Nat) (t:List (Nat×AV)) (h:List (Nat×Ob)):Prop:=go P (.code wZ::k) Q n t h
theorem VY (ops:List av) (d:Bool):go P (.code (mark p (.region ops d))::k) Q n t h=zX P (p ops) ops d k Q n t h:=(rfl)
theorem VZ (ops:List av) (d:Bool):zX P false ops d k Q n t h=go P (.code (.region ops d)::k) Q n t h:=(rfl)
theorem V3 (ops:List av) (d:Bool):zX P true ops d k Q n t h=qB P (.code (.region ops d)::k) Q n t h:=by
 unfold zX qB
 exact Dn _ _
theorem V4 (a b:cK):go P (.code (mark p (.seq a b))::k) Q n t h=go P (.code (mark p a):: .code (mark p b)::k) Q n t h:=Dn _ _
theorem V5 (c:Operand) (x y:cK):go P (.code (mark p (.cond c x y))::k) Q n t h=sj P (ev t c) (mark p x) (mark p y) k Q n t h:=(rfl)
theorem V6 (id:Nat) (c:cK):go P (.code (mark p (.block id c))::k) Q n t h=go P (.code (mark p c):: .blk id::k) Q n t h:=zK _ _
theorem V7 (c:cK):go P (.code (mark p (.loop c))::k) Q n t h=go P (.code (.loop (mark p c))::k) Q n t h:=(rfl)
theorem V8:go P (.code (mark p .skip)::k) Q n t h=go P k Q n t h:=(rfl)
theorem V9 (id:Nat):go P (.code (mark p (.exit id))::k) Q n t h=eO P id k Q n t h:=(rfl)
theorem Wd:go P (.code (mark p .ret)::k) Q n t h=Q .ret ⟨n,t,h⟩:=(rfl)
theorem Wh {t':List (Nat×AV)} {h':List (Nat×Ob)} (hw:Wk ⟨n,t,h⟩ ⟨n,t',h'⟩) (hk:go P k Q n t' h'):qB P k Q n t h:=by
 unfold qB wZ
 rw [zK]
 refine go_loop (fun _:Unit=>⟨n,t',h'⟩) (fun _=>0) () hw fun _ B hB=> ?_
 rw [Dp,Dr,Dq,if_pos rfl]
 exact hk
theorem DL (hk:go P k Q n t h):qB P k Q n t h:=by
 unfold qB wZ
 rw [zK]
 refine go_loop (fun _:Unit=>⟨n,t,h⟩) (fun _=>0) () (fun C ρ U a w hR hU=>⟨ρ,U,hR,hU⟩) fun _ B hB=> ?_
 rw [Dp,Dr,Dq,if_pos rfl]
 exact hk
end
attribute [go_sem] VY VZ V3 V4 V5 V6 V7 V8 V9 Wd
def nL:List Nat->Nat->Bool
 |[],_=>false
 |a::l,b=>(a==b)||nL l b
theorem w9:∀ (l:List Nat) (b:Nat),nL l b=true↔b ∈ l
 |[],b=>by simp [nL]
 |a::l,b=>by
  simp only [nL,Bool.or_eq_true,beq_iff_eq,w9 l b,List.mem_cons]
  exact ⟨fun h=>h.imp Eq.symm id,fun h=>h.imp Eq.symm id⟩
def DN (b sz off len:Nat):Option Ob->AV
 |some (.row _ _ xs)=> .sl sz ((xs.drop off).take len)
 |_=> .own b sz off len
mutual
def lV (h:List (Nat×Ob)):AV->AV
 | .own b sz off len=>DN b sz off len (get h b)
 | .agg cs=> .agg (nM h cs)
 | .aN cs=> .aN (nM h cs)
 | .fn f cs=> .fn f (nM h cs)
 | .v x=> .v x
 | .sl sz xs=> .sl sz xs
 | .ptr b j=> .ptr b j
 | .rp b sz i j=> .rp b sz i j
 | .bB cs j=> .bB cs j
 | .mp b=> .mp b
def nM (h:List (Nat×Ob)):List AV->List AV
 |[]=>[]
 |c::cs=>lV h c::nM h cs
end
def DR (sz off len:Nat):Option Ob->Prop
 |some (.row _ sz' xs)=>sz=sz'/\off+len<=xs.length
 |_=>False
def KV:Option Ob->Prop
 |some (.box _)=>True
 |_=>False
mutual
def u7 (h:List (Nat×Ob)):AV->Prop
 | .own b sz off len=>DR sz off len (get h b)
 | .agg cs=>qC h cs
 | .aN cs=>qC h cs
 | .fn _ cs=>qC h cs
 | .v _=>True
 | .sl _ _=>True
 | .ptr b _=>KV (get h b)
 | .rp _ _ _ _=>False
 | .bB _ _=>True
 | .mp _=>False
def qC (h:List (Nat×Ob)):List AV->Prop
 |[]=>True
 |c::cs=>u7 h c/\qC h cs
end
def DT:Ob->Bool
 | .box _=>true
 |_=>false
def d9:List Nat->List (Nat×Ob)->List Nat
 |_,[]=>[]
 |s,(k,o)::l=>if nL s k=true then d9 s l else if DT o=true then k::d9 (k::s) l else d9 (k::s) l
def zY (h:List (Nat×Ob)) (k:Nat) (r:List (Nat×Ob)):Option Ob->List (Nat×Ob)
 |some (.box cs)=>(k,.box (nM h cs))::r
 |_=>r
def nO (h:List (Nat×Ob)):List Nat->List (Nat×Ob)
 |[]=>[]
 |k::l=>zY h k (nO h l) (get h k)
def KW (h:List (Nat×Ob)):Option Ob->Prop
 |some (.box cs)=>qC h cs
 |_=>True
def ve (h:List (Nat×Ob)):List Nat->Prop
 |[]=>True
 |k::l=>KW h (get h k)/\ve h l
def KX (sz:Nat):Option Ob->Bool
 |some (.row _ sz' _)=>sz==sz'
 |_=>false
def KY:Option Ob->Bool
 |some (.box _)=>true
 |_=>false
def kp (h:List (Nat×Ob)):AV->Bool
 | .v _=>true
 | .sl _ _=>true
 | .own b sz _ _=>KX sz (get h b)
 | .ptr b _=>KY (get h b)
 |_=>false
def oN (h:List (Nat×Ob)):List Nat->List (Nat×AV)->List (Nat×AV)
 |_,[]=>[]
 |s,(k,x)::l=>if nL s k=true then oN h s l else if kp h x=true then (k,lV h x)::oN h (k::s) l else oN h (k::s) l
def qD (h:List (Nat×Ob)):List Nat->List (Nat×AV)->Prop
 |_,[]=>True
 |s,(k,x)::l=>if nL s k=true then qD h s l else if kp h x=true then u7 h x/\qD h (k::s) l else qD h (k::s) l
def iW (l:List Nat):List (Nat×Nat):=l.map fun k=>(k,k)
theorem KZ (l:List Nat) (b:Nat):get (iW l) b=if b ∈ l then some b else none:=by
 induction l with
 |nil=>rfl
 |cons a l ih=>
  simp only [iW,List.map_cons,get] at ih ⊢
  by_cases e:a=b
  ·subst e;simp
  ·rw [if_neg e,ih]
   simp [Ne.symm e]
theorem zZ (h0:List (Nat×Ob)):∀ (l:List (Nat×Ob)) (s:List Nat),(∀ k,k ∉ s->get h0 k=get l k)->(∀ b,b ∈ d9 s l↔(b ∉ s/\∃ cs,get h0 b=some (.box cs)))/\(d9 s l).Nodup
 |[],s,hh=>by
  refine ⟨fun b=>⟨fun h=>by simp [d9] at h,fun ⟨h1,cs,h2⟩=> ?_⟩,by simp [d9]⟩
  rw [hh b h1] at h2
  cases h2
 |(k,o)::l,s,hh=>by
  simp only [d9]
  by_cases hm:nL s k=true
  ·rw [if_pos hm]
   have hk:=(w9 s k).1 hm
   refine zZ h0 l s fun b hb=> ?_
   rw [hh b hb,gq]
   intro e;subst e;exact hb hk
  ·rw [if_neg hm]
   have hk:k ∉ s:=fun h=>hm ((w9 s k).2 h)
   have ih:=zZ h0 l (k::s) fun b hb=>by
    have hb:=fun q=>hb (List.mem_cons.2 q)
    rw [hh b (fun h=>hb (.inr h)),gq]
    intro e;exact hb (.inl e.symm)
   have h0k:get h0 k=some o:=by rw [hh k hk,kr]
   by_cases hb:DT o=true
   ·rw [if_pos hb]
    have ho:∃ cs,o= .box cs:=by cases o<;>first|exact ⟨_,rfl⟩|cases hb
    obtain ⟨cs,rfl⟩:=ho
    refine ⟨fun b=> ?_,List.nodup_cons.2 ⟨fun h=>((ih.1 k).1 h).1 (by simp),ih.2⟩⟩
    rw [List.mem_cons,ih.1 b]
    constructor
    ·rintro (rfl|⟨h1,h2⟩)
     ·exact ⟨hk,_,h0k⟩
     ·exact ⟨fun h=>h1 (List.mem_cons_of_mem _ h),h2⟩
    ·rintro ⟨h1,h2⟩
     by_cases e:b=k
     ·exact .inl e
     ·exact .inr ⟨fun h=>by rcases List.mem_cons.1 h with h|h;exact e h;exact h1 h,h2⟩
   ·rw [if_neg hb]
    refine ⟨fun b=> ?_,ih.2⟩
    rw [ih.1 b]
    constructor
    ·rintro ⟨h1,h2⟩
     exact ⟨fun h=>h1 (List.mem_cons_of_mem _ h),h2⟩
    ·rintro ⟨h1,cs,h2⟩
     refine ⟨fun h=> ?_,cs,h2⟩
     rcases List.mem_cons.1 h with h|h
     ·subst h;rw [h0k] at h2;cases h2;exact hb rfl
     ·exact h1 h
theorem vg (h:List (Nat×Ob)) (b:Nat):b ∈ d9 [] h↔∃ cs,get h b=some (.box cs):=by
 rw [(zZ h h [] fun _ _=>rfl).1 b];simp
section
variable (h:List (Nat×Ob))
mutual
theorem K3:∀ (x:AV),u7 h x->rv h (iW (d9 [] h)) [] (lV h x) x
 | .own b sz off len,hp=>by
  simp only [u7] at hp
  simp only [lV]
  cases hg:get h b with
  |none=>rw [hg] at hp;exact hp.elim
  |some o=>
   rw [hg] at hp
   cases o with
   |row e sz' xs=>
    simp only [DR] at hp
    simp only [DN,rv,hg]
    refine ⟨fun hb=> ?_,trivial,hp.1,hp.2,trivial⟩
    have:b ∈ d9 [] h:=by
     simp only [iW,List.map_map,List.mem_map] at hb
     obtain ⟨k,h1,rfl⟩:=hb
     exact h1
    obtain ⟨cs,h2⟩:=(vg h b).1 this
    rw [hg] at h2
    cases h2
   |_=>exact hp.elim
 | .agg cs,hp=>by simp only [lV,rv];exact xg cs hp
 | .aN cs,hp=>by simp only [lV,rv];exact xg cs hp
 | .fn f cs,hp=>by simp only [lV,rv];exact ⟨trivial,xg cs hp⟩
 | .v x,hp=>by simp only [lV,rv]
 | .sl sz xs,hp=>by simp only [lV,rv,and_self]
 | .ptr b j,hp=>by
  simp only [u7] at hp
  simp only [lV,rv,and_true]
  rw [KZ,if_pos]
  rw [vg]
  cases hg:get h b with
  |none=>rw [hg] at hp;exact hp.elim
  |some o=>rw [hg] at hp;cases o<;>first|exact ⟨_,rfl⟩|exact hp.elim
 | .rp b sz i j,hp=>hp.elim
 | .bB cs j,hp=>by simp only [lV,rv,and_self]
 | .mp b,hp=>hp.elim
theorem xg:∀ (cs:List AV),qC h cs->au h (iW (d9 [] h)) [] (nM h cs) cs
 |[],_=>by simp only [nM,au]
 |c::cs,hp=>by simp only [nM,au];exact ⟨K3 c hp.1,xg cs hp.2⟩
end
theorem K4:∀ (l:List Nat) (b:Nat),(∀ k ∈ l,∃ cs,get h k=some (.box cs))->get (nO h l) b=if b ∈ l then (match get h b with
 |some (.box cs)=>some (.box (nM h cs))
 |_=>none) else none
 |[],b,_=>rfl
 |k::l,b,hk=>by
  obtain ⟨cs,hc⟩:=hk k (by simp)
  have ih:=K4 l b fun j hj=>hk j (List.mem_cons_of_mem _ hj)
  simp only [nO,hc,zY,get]
  by_cases e:k=b
  ·subst e;simp [hc]
  ·rw [if_neg e,ih]
   have:(b ∈ k::l)=(b ∈ l):=by simp [Ne.symm e]
   simp only [this]
theorem K5:∀ (l:List Nat),ve h l->∀ b ∈ l,∀ cs,get h b=some (.box cs)->qC h cs
 |[],_,b,hb,_,_=>by cases hb
 |k::l,hp,b,hb,cs,hc=>by
  rcases List.mem_cons.1 hb with rfl|hb
  ·have:=hp.1;rw [hc] at this;exact this
  ·exact K5 l hp.2 b hb cs hc
theorem K6:∀ (l:List Nat),(∀ k ∈ l,∃ cs,get h k=some (.box cs))->(nO h l).map Prod.fst=l
 |[],_=>rfl
 |k::l,hk=>by
  obtain ⟨cs,hc⟩:=hk k (by simp)
  simp only [nO,hc,zY,List.map_cons,K6 l fun j hj=>hk j (List.mem_cons_of_mem _ hj)]
theorem K7:∀ (l:List Nat),(∀ k ∈ l,k ∈ d9 [] h)->ve h (d9 [] h)->bq h (iW (d9 [] h)) [] (nO h (d9 [] h)) (iW l)
 |[],_,_=>by simp only [iW,List.map_nil,bq]
 |k::l,hl,hp=>by
  have hk:=hl k (by simp)
  obtain ⟨cs,hc⟩:=(vg h k).1 hk
  have ih:=K7 l (fun j hj=>hl j (List.mem_cons_of_mem _ hj)) hp
  simp only [iW,List.map_cons,bq] at ih ⊢
  refine ⟨?_,ih⟩
  have h1:=K4 h (d9 [] h) k fun j hj=>(vg h j).1 hj
  rw [if_pos hk,hc] at h1
  simp only at h1
  simp only [h1,hc,aR]
  exact xg h cs (K5 h _ hp k hk cs hc)
theorem z8 (t0:List (Nat×AV)):∀ (l:List (Nat×AV)) (s:List Nat),(∀ k,k ∉ s->get t0 k=get l k)->qD h s l->bQ h (iW (d9 [] h)) [] t0 (oN h s l)
 |[],s,_,_=>by simp only [oN,bQ]
 |(k,x)::l,s,hh,hp=>by
  simp only [qD] at hp
  simp only [oN]
  by_cases hm:nL s k=true
  ·rw [if_pos hm] at hp ⊢
   have hk:=(w9 s k).1 hm
   refine z8 t0 l s (fun b hb=> ?_) hp
   rw [hh b hb,gq]
   intro e;subst e;exact hb hk
  ·rw [if_neg hm] at hp ⊢
   have hk:k ∉ s:=fun h=>hm ((w9 s k).2 h)
   have K8:∀ b,b ∉ k::s->get t0 b=get l b:=fun b hb=>by
    have hb:=fun q=>hb (List.mem_cons.2 q)
    rw [hh b (fun h=>hb (.inr h)),gq]
    intro e;exact hb (.inl e.symm)
   by_cases hx:kp h x=true
   ·rw [if_pos hx] at hp ⊢
    simp only [bQ]
    refine ⟨?_,z8 t0 l (k::s) K8 hp.2⟩
    rw [hh k hk,kr]
    exact K3 h x hp.1
   ·rw [if_neg hx] at hp ⊢
    exact z8 t0 l (k::s) K8 hp
theorem Wi:fw h (iW (d9 [] h)) [] (nO h (d9 [] h))=true:=by
 have hn:=(zZ h h [] fun _ _=>rfl).2
 have e1:(iW (d9 [] h)).map Prod.snd=d9 [] h:=by simp [iW,Function.comp_def]
 have e2:(iW (d9 [] h)).map Prod.fst=d9 [] h:=by simp [iW,Function.comp_def]
 have hk:∀ b,kK h (iW (d9 [] h)) b=true:=fun b=>by
  unfold kK
  split
  ·rename_i cs hc
   rw [KZ,if_pos ((vg h b).2 ⟨cs,hc⟩)]
   simp
  ·rfl
 unfold fw
 rw [e1,e2,K6 h _ fun j hj=>(vg h j).1 hj]
 simp [hn,hk]
end
def xh (n:Nat):List Nat->Bool
 |[]=>true
 |k::l=>Nat.blt k n&&xh n l
theorem K9 {n:Nat}:∀ {l:List Nat},xh n l=true->∀ k ∈ l,k<n
 |[],_,k,hk=>by cases hk
 |a::l,h,k,hk=>by
  simp only [xh,Bool.and_eq_true] at h
  rcases List.mem_cons.1 hk with rfl|hk
  ·have:=h.1;rwa [Nat.blt_eq] at this
  ·exact K9 h.2 k hk
section
variable {P:Program} {k:List It} {Q:Exit->St->Prop} {n:Nat} {t:List (Nat×AV)} {h:List (Nat×Ob)}
theorem DU {B:List Nat} (hB:d9 [] h=B) (hn:xh n B=true) (hp:ve h B/\qD h [] t) (hk:go P k Q n (oN h [] t) (nO h B)):qB P k Q n t h:=by
 subst hB
 refine Wh (Wk.mk (iW (d9 [] h)) [] (Wi h) ?_ (K7 h _ (fun _ h=>h) hp.1) trivial (z8 h t t [] (fun _ _=>rfl) hp.2)) hk
 simp only [iW,List.map_map,List.append_nil,List.all_eq_true,List.mem_map,Function.comp]
 rintro b ⟨c,hc,rfl⟩
 exact decide_eq_true (K9 hn c hc)
end
def La:dZ->Bool
 | .call _ _=>true
 | .jm _ _ zs _ _=>decide (10<=zs.length)
 |_=>false
def Aa:List av->Bool
 |[]=>false
 |o::l=>La o.op||Aa l
def Lb:dZ->Bool
 | .jm _ _ zs _ _=>decide (10<=zs.length)
 |_=>false
def Lc:List av->Bool
 |[]=>false
 |o::l=>Lb o.op||Lc l
attribute [go_sem] Lb Lc
attribute [go_sem ↓] reduceIte
attribute [go_sem] Bool.true_or Bool.or_true Bool.false_or Bool.or_false Bool.or_self
attribute [go_sem] nL DN lV nM DR KV u7 qC DT d9 zY nO KW ve KX KY kp oN qD La Aa
end Go.Eng
namespace Go.Eng
open Go
def DV (a b:ByteArray):ByteArray:=⟨(a.data.toList++b.data.toList).toArray⟩
theorem Wj (a b:ByteArray):a++b=DV a b:=by
 obtain ⟨⟨a⟩⟩:=a
 obtain ⟨⟨b⟩⟩:=b
 apply ByteArray.ext
 simp [DV]
def DW (s:ByteArray) (l r:Nat):ByteArray:=⟨((s.data.toList.take r).drop l).toArray⟩
theorem Wl (s:ByteArray) (l r:Nat):s.extract l r=DW s l r:=by
 obtain ⟨⟨s⟩⟩:=s
 apply ByteArray.ext
 simp [DW,List.extract_eq_take_drop,List.drop_take]
def xk:BinOp->Value->Value->Option Value
 | .eql,.string a,.string b=>some (.bool (a.data.toList==b.data.toList))
 | .neq,.string a,.string b=>some (.bool (!(a.data.toList==b.data.toList)))
 |op,x,y=>jc op x y
theorem Wm (op:BinOp) (x y:Value):jc op x y=xk op x y:=by
 unfold xk
 split<;>simp [jc,ByteArray.toList_eq]
def lW:BinOp->Value->Value->Option (Bool×Value)
 | .quo,.int k a,.int k' b=>if k=k' then some (decide (b≠0),.int k (k.wrap (a.tdiv b))) else none
 | .rem,.int k a,.int k' b=>if k=k' then some (decide (b≠0),.int k (a.tmod b)) else none
 | .shl,.int k a,.int _ b=>some (decide (0<=b),.int k (k.wrap (a*2 ^ (min b.toNat k.bits))))
 | .shr,.int k a,.int _ b=>some (decide (0<=b),.int k (a.fdiv (2 ^ (min b.toNat k.bits))))
 | .add,.string a,.string b=>some (decide (a.size+b.size<=maxLen),.string (DV a b))
 |_,_,_=>none
theorem Ld (op:BinOp) (x y:Value):jS op x y=(lW op x y).map fun p=>(p.1=true,p.2):=by
 unfold jS
 split
 ·simp only [lW];split<;>simp
 ·simp only [lW];split<;>simp
 ·simp [lW]
 ·simp [lW]
 ·simp [lW,Wj]
 ·rename_i h1 h2 h3 h4 h5
  unfold lW
  split
  ·exact (h1 _ _ _ _ rfl rfl rfl).elim
  ·exact (h2 _ _ _ _ rfl rfl rfl).elim
  ·exact (h3 _ _ _ _ rfl rfl rfl).elim
  ·exact (h4 _ _ _ _ rfl rfl rfl).elim
  ·exact (h5 _ _ rfl rfl rfl).elim
  ·rfl
def vk:List Nat->List AV->List AV->Option Bool
 |[],[],[]=>some true
 |0::ks,.v (.int k a)::l,.v (.int k' b)::l'=>if k=k' then (match vk ks l l' with
  |some r=>some ((a==b)&&r)
  |none=>none) else none
 |1::ks,.v (.string a)::l,.v (.string b)::l'=>match vk ks l l' with
  |some r=>some ((a.data.toList==b.data.toList)&&r)
  |none=>none
 |2::ks,.v (.bool a)::l,.v (.bool b)::l'=>match vk ks l l' with
  |some r=>some ((a==b)&&r)
  |none=>none
 |_,_,_=>none
theorem Wn:∀ (ks:List Nat) (l l':List AV),gu ks l l'=vk ks l l':=by
 intro ks l l'
 induction ks,l,l' using gu.induct<;>simp_all [gu,vk,ByteArray.toList_eq]
def nP (h:List (Nat×Ob)) (sz:Nat):Option AV->Option (Bool×List (List AV))
 |some (.v (.slice none 0 0))=>some (true,[])
 |some (.sl sz' xs)=>if sz=sz' then some (true,xs) else none
 |some (.own b sz' off len)=>match get h b with
  |some (.row _ bU xs)=>if sz=sz'/\sz=bU then some (decide (off+len<=xs.length),(xs.drop off).take len) else none
  |_=>none
 |_=>none
theorem Wo (h:List (Nat×Ob)) (sz:Nat) (x:Option AV):iP h sz x=(nP h sz x).map fun p=>(p.1=true,p.2):=by
 unfold iP
 split
 ·simp [nP]
 ·simp only [nP];split<;>simp_all
 ·rename_i b sz' off len
  simp only [nP]
  cases hg:get h b with
  |none=>rfl
  |some o=>
   cases o with
   |row e bU xs=>simp only;split<;>simp
   |_=>rfl
 ·rename_i h1 h2 h3
  unfold nP
  split
  ·exact (h1 rfl).elim
  ·exact (h2 _ _ rfl).elim
  ·exact (h3 _ _ _ _ rfl).elim
  ·rfl
def iX (nm:Nat) (t:List (Nat×AV)) (h:List (Nat×Ob)):dZ->Option E
 | .bin op x y=>match ev t x,ev t y with
  |some (.v a),some (.v b)=>match xk op a b with
   |some c=>E.ok (.v c)
   |none=>match lW op a b with
    |some (p,c)=>some ⟨p=true,.v c,[]⟩
    |none=>none
  |_,_=>none
 | .eqs neg ks x y=>match ev t x,ev t y with
  |some (.agg a),some (.agg b)=>match vk ks a b with
   |some c=>E.ok (.v (.bool (if neg then !c else c)))
   |none=>none
  |_,_=>none
 | .jP x lo hi=>match ev t x,bound t 0 lo with
  |some (.v (.string s)),some l=>match bound t s.size hi with
   |some r=>some ⟨0<=l/\l<=r/\r<=s.size,.v (.string (DW s l.toNat r.toNat)),[]⟩
   |none=>none
  |_,_=>none
 |op=>ax nm t h op
theorem Ab (nm:Nat) (t:List (Nat×AV)) (h:List (Nat×Ob)) (op:dZ):ax nm t h op=iX nm t h op:=by
 cases op
 case bin op x y=>
  simp only [ax,iX]
  rcases ev t x with _|X
  ·rfl
  rcases ev t y with _|Y
  ·cases X<;>rfl
  cases X<;>try rfl
  cases Y<;>try rfl
  rename_i a b
  simp only [Wm,Ld]
  cases xk op a b with
  |some c=>rfl
  |none=>cases lW op a b<;>rfl
 case eqs neg ks x y=>simp only [ax,iX,Wn];rfl
 case jP x lo hi=>simp only [ax,iX,Wl];rfl
 all_goals rfl
def preB (t:List (Nat×AV)) (h:List (Nat×Ob)):dZ->Bool
 | .load ag sz x=>match ev t x with
  |some (.rp b _ k j)=>match get h b with
   |some (.row _ bU xs)=>if ag then decide (k<xs.length/\j+sz<=bU) else decide (k<xs.length/\j<bU)
   |_=>false
  |_=>true
 | .store sz x _=>match ev t x with
  |some (.rp b _ k j)=>match get h b with
   |some (.row _ bU xs)=>decide (k<xs.length/\j+sz<=bU)
   |_=>false
  |_=>true
 | .bin op x y=>match ev t x,ev t y with
  |some (.v a),some (.v b)=>match jc op a b with
   |some _=>true
   |none=>match lW op a b with
    |some (p,_)=>p
    |none=>false
  |_,_=>false
 | .jO x=>match nP h 1 (ev t x) with
  |some (p,_)=>p
  |none=>false
 | .ku _ _ bytes _ l c=>match ev t l,ev t c with
  |some (.v (.int _ n)),some (.v (.int _ m))=>decide (0<=n/\n=m/\n*bytes<=140737488355328/\n<=9223372036854775807)
  |_,_=>false
 | .app _ sz bytes _ s x=>match ev t s,nP h sz (ev t x) with
  |some (.v (.slice none 0 0)),some (p,news)=>p&&decide (news.length*bytes<=140737488355328/\news.length<=maxLen)
  |some (.fn 2000000 [.sl _ xs]),some (p,news)=>if 0<news.length then p&&decide ((xs.length+news.length)*bytes<=140737488355328/\xs.length+news.length<=maxLen) else p
  |some (.own b _ off len),some (p,news)=>match get h b with
   |some (.row _ _ xs)=>if off+len+news.length<=xs.length then p else p&&decide ((len+news.length)*bytes<=140737488355328/\len+news.length<=maxLen/\off+len<=xs.length)
   |_=>false
  |_,_=>false
 | .slice _ x lo hi (some m)=>match hi with
  |some y=>match ev t x,bound t 0 lo,ev t y,ev t m with
   |some (.sl _ xs),some l,some (.v (.int _ r)),some (.v (.int _ c))=>decide (l=0/\r=c/\r=xs.length)
   |some (.v (.slice none 0 0)),some l,some (.v (.int _ r)),some (.v (.int _ c))=>decide (l=0/\r=0/\c=0)
   |some (.own _ _ _ len),some l,some (.v (.int _ r)),some (.v (.int _ c))=>decide (0<=l/\l<=r/\r<=c/\c<=len)
   |_,_,_,_=>false
  |none=>false
 | .slice sz x lo hi none=>match ev t x,bound t 0 lo with
  |some (.sl _ xs),some l=>match bound t xs.length hi with
   |some r=>decide (0<=l/\l<=r/\r<=xs.length)
   |none=>false
  |some (.own b _ off len),some l=>match get h b,bound t len hi with
   |some (.row _ bU xs),some r=>decide (0<=l/\l<=r/\(r<=len\/(0<sz/\sz=bU/\off+r.toNat<=xs.length)))
   |_,_=>false
  |some (.v (.slice none 0 0)),some l=>match bound t 0 hi with
   |some r=>decide (l=0/\r=0)
   |none=>false
  |_,_=>false
 | .jP x lo hi=>match ev t x,bound t 0 lo with
  |some (.v (.string s)),some l=>match bound t s.size hi with
   |some r=>decide (0<=l/\l<=r/\r<=s.size)
   |none=>false
  |_,_=>false
 | .idxs x i=>match ev t x,ev t i with
  |some (.v (.string s)),some (.v (.int _ n))=>decide (0<=n/\n<s.size)
  |_,_=>false
 | .idx ag len sz x i=>match ev t x,ev t i with
  |some (.agg cs),some (.v (.int _ n))=>if ag then decide (0<=n/\n<len/\n.toNat*sz+sz<=cs.length) else decide (0<=n/\n<len)
  |_,_=>false
 | .kC _ _ bytes _ _ x=>match ev t x with
  |some (.v (.int _ n))=>decide (0<n/\n*bytes<=140737488355328/\n<=9223372036854775807)
  |_=>false
 | .kD _ _ x=>match ev t x with
  |some (.own b _ off len)=>match get h b with
   |some (.row _ _ xs)=>decide (off+len<=xs.length)
   |_=>false
  |_=>false
 | .copy sz d x=>match ev t d,nP h sz (ev t x) with
  |some (.own b _ off len),some (p,_)=>match get h b with
   |some (.row _ _ xs)=>p&&decide (off+len<=xs.length)
   |_=>false
  |_,_=>false
 | .jo _ x=>match ev t x with
  |some (.rp b _ k _)=>match get h b with
   |some (.row _ _ xs)=>decide (k<xs.length)
   |_=>false
  |_=>true
 | .jA _ x i=>match ev t x,ev t i with
  |some (.sl _ xs),some (.v (.int _ n))=>decide (0<=n/\n<xs.length)
  |some (.own _ _ _ len),some (.v (.int _ n))=>decide (0<=n/\n<len)
  |_,_=>false
 | .kz len _ x i=>match ev t x,ev t i with
  |some (.ptr _ _),some (.v (.int _ n))=>decide (0<=n/\n<len)
  |_,_=>false
 |_=>true
theorem xq {h:List (Nat×Ob)} {sz:Nat} {x:Option AV} {p:Prop} {xs:List (List AV)} (e:iP h sz x=some (p,xs)):∃ q:Bool,nP h sz x=some (q,xs)/\(q=true->p):=by
 rw [Wo] at e
 cases hc:nP h sz x with
 |none=>rw [hc] at e;cases e
 |some r=>
  rw [hc] at e
  obtain ⟨q,ys⟩:=r
  simp only [Option.map_some,Option.some.injEq,Prod.mk.injEq] at e
  obtain ⟨rfl,rfl⟩:=e
  exact ⟨q,rfl,fun h=>h⟩
theorem Wp {op:BinOp} {a b:Value} {p:Prop} {c:Value} (e:jS op a b=some (p,c)):∃ q:Bool,lW op a b=some (q,c)/\(q=true->p):=by
 rw [Ld] at e
 cases hc:lW op a b with
 |none=>rw [hc] at e;cases e
 |some r=>
  rw [hc] at e
  obtain ⟨q,ys⟩:=r
  simp only [Option.map_some,Option.some.injEq,Prod.mk.injEq] at e
  obtain ⟨rfl,rfl⟩:=e
  exact ⟨q,rfl,fun h=>h⟩
set_option maxHeartbeats 4000000 in
theorem DX {nm:Nat} {t:List (Nat×AV)} {h:List (Nat×Ob)} {op:dZ} {e:E} (he:ax nm t h op=some e) (hp:preB t h op=true):e.pre:=by
 cases op
 case bin op x y=>
  simp only [ax,E.ok] at he
  split at he
  ·rename_i a b h1 h2
   split at he
   ·cases he;trivial
   ·rename_i hn
    split at he
    ·rename_i p c hs
     cases he
     obtain ⟨q,h3,h4⟩:=Wp hs
     simp only [preB,h1,h2,hn,h3] at hp
     exact h4 hp
    ·cases he
  ·cases he
 case jO x=>
  simp only [ax,E.ok] at he
  split at he
  ·rename_i p xs h1
   split at he
   ·cases he
    obtain ⟨q,h3,h4⟩:=xq h1
    simp only [preB,h3] at hp
    exact h4 hp
   ·cases he
  ·cases he
 case app ty sz bytes zs x y=>
  simp only [ax,E.ok] at he
  split at he
  ·rename_i p news h1 h2
   cases he
   obtain ⟨q,h3,h4⟩:=xq h2
   simp only [preB,h1,h3,Bool.and_eq_true,decide_eq_true_eq] at hp
   exact ⟨h4 hp.1,hp.2⟩
  ·rename_i sz' xs p news h1 h2
   split at he
   ·obtain ⟨q,h3,h4⟩:=xq h2
    split at he
    ·rename_i hpos
     cases he
     simp only [preB,h1,h3,if_pos hpos,Bool.and_eq_true,decide_eq_true_eq] at hp
     exact ⟨h4 hp.1,hp.2⟩
    ·rename_i hpos
     cases he
     simp only [preB,h1,h3,if_neg hpos] at hp
     exact h4 hp
   ·cases he
  ·rename_i b sz' off len p news h1 h2
   split at he
   ·rename_i e' bU xs hg
    split at he
    ·obtain ⟨q,h3,h4⟩:=xq h2
     split at he
     ·rename_i hrm
      cases he
      simp only [preB,h1,h3,hg,if_pos hrm] at hp
      exact h4 hp
     ·rename_i hrm
      cases he
      simp only [preB,h1,h3,hg,if_neg hrm,Bool.and_eq_true,decide_eq_true_eq] at hp
      exact ⟨h4 hp.1,hp.2⟩
    ·cases he
   ·cases he
  ·cases he
 case copy sz d x=>
  simp only [ax] at he
  split at he
  ·rename_i b sz' off len p ys h1 h2
   split at he
   ·rename_i e' bU xs hg
    split at he
    ·simp only [Option.some.injEq] at he;subst he
     obtain ⟨q,h3,h4⟩:=xq h2
     simp only [preB,h1,h3,hg,Bool.and_eq_true,decide_eq_true_eq] at hp
     exact ⟨h4 hp.1,hp.2⟩
    ·cases he
   ·cases he
  ·cases he
 case ku ty sz bytes zs l c=>
  simp only [ax,E.ok] at he
  split at he
  ·rename_i k n k' m h1 h2
   cases he
   simp only [preB,h1,h2,decide_eq_true_eq] at hp
   exact hp
  ·cases he
 case slice sz x lo hi mx=>
  cases mx with
  |none=>simp only [ax,E.ok] at he;(repeat' split at he)<;>simp_all [preB]<;>(subst he;simp_all)
  |some m=>
   cases hi with
   |none=>simp only [preB] at hp;cases hp
   |some y=>
    simp only [ax] at he
    simp only [preB] at hp
    split at hp
    ·rename_i sz' xs l k r k' c h1 h2 h3 h4
     simp only [h1,h2,h3,h4] at he
     split at he
     ·simp only [Option.some.injEq] at he;subst he;simpa only [decide_eq_true_eq] using hp
     ·cases he
    ·rename_i l k r k' c h1 h2 h3 h4
     simp only [h1,h2,h3,h4,Option.some.injEq] at he
     subst he
     simpa only [decide_eq_true_eq] using hp
    ·rename_i b sz' off len l k r k' c h1 h2 h3 h4
     simp only [h1,h2,h3,h4] at he
     split at he
     ·split at he
      ·simp_all only [Option.some.injEq,decide_eq_true_eq]
       subst he
       simp_all
      ·cases he
     ·cases he
    ·cases hp
 all_goals (simp only [ax,E.ok] at he;(repeat' split at he)<;>simp_all [preB]<;>(subst he;simp_all))
def nQ (S:List (Nat×Nat)) (k b:Nat):Bool:=match get S k with
 |some c=>c==b
 |none=>false
theorem Ac {S:List (Nat×Nat)} {k b:Nat} (h:nQ S k b=true):get S k=some b:=by
 unfold nQ at h
 split at h
 ·rename_i c hc;rw [hc,eq_of_beq h]
 ·cases h
mutual
def tr (h:List (Nat×Ob)) (S inv:List (Nat×Nat)):AV->Option AV
 | .own b sz off len=>match get inv b with
  |some k=>bif nQ S k b then some (.own k sz off len) else none
  |none=>bif (S.map Prod.snd).contains b then none else match get h b with
   |some (.row _ bU xs)=>if sz=bU/\off+len<=xs.length then some (.sl sz ((xs.drop off).take len)) else none
   |some (.box cs)=>if 4<=b/\off=0/\cs.length=len*sz/\bf cs=true/\jQ cs=true then some (.sl sz (jU sz len cs)) else none
   |_=>none
 | .rp b sz i j=>match get inv b with
  |some k=>bif nQ S k b then some (.rp k sz i j) else none
  |none=>bif (S.map Prod.snd).contains b then none else match get h b with
   |some (.row _ bU xs)=>if sz=bU/\i<xs.length then some (.bB (nth xs i) j) else none
   |_=>none
 | .ptr b j=>match get inv b with
  |some k=>bif nQ S k b then some (.ptr k j) else none
  |none=>none
 | .mp b=>match get inv b with
  |some k=>bif nQ S k b then some (.mp k) else none
  |none=>none
 | .agg cs=>match iL h S inv cs with
  |some ys=>some (.agg ys)
  |none=>none
 | .aN cs=>match iL h S inv cs with
  |some ys=>some (.aN ys)
  |none=>none
 | .fn f cs=>match iL h S inv cs with
  |some ys=>some (.fn f ys)
  |none=>none
 | .v a=>some (.v a)
 | .sl sz xs=>some (.sl sz xs)
 | .bB cs j=>some (.bB cs j)
def iL (h:List (Nat×Ob)) (S inv:List (Nat×Nat)):List AV->Option (List AV)
 |[]=>some []
 |c::cs=>match tr h S inv c with
  |some y=>match iL h S inv cs with
   |some ys=>some (y::ys)
   |none=>none
  |none=>none
end
theorem DY {S:List Nat} {b:Nat} (h:S.contains b=false):b ∉ S:=by
 intro hm
 rw [List.contains_iff_mem.2 hm] at h
 cases h
mutual
theorem vo {h:List (Nat×Ob)} {S inv:List (Nat×Nat)}:∀ (x y:AV),tr h S inv x=some y->rv h S [] y x
 | .own b sz off len,y,e=>by
  simp only [tr] at e
  split at e
  ·rename_i k hk
   cases hs:nQ S k b with
   |false=>rw [hs] at e;cases e
   |true=>rw [hs] at e;simp only [cond_true,Option.some.injEq] at e;subst e;simp only [rv,Ac hs,and_self]
  ·cases hc:(S.map Prod.snd).contains b with
   |true=>rw [hc] at e;cases e
   |false=>
    rw [hc] at e
    simp only [cond_false] at e
    split at e
    ·rename_i x1 bU xs hg
     split at e
     ·rename_i h1
      simp only [Option.some.injEq] at e
      subst e
      simp only [rv,hg]
      simp only [h1.1,h1.2,and_true,true_and]
      exact DY hc
     ·cases e
    ·rename_i cs hg
     split at e
     ·rename_i h1
      simp only [Option.some.injEq] at e
      subst e
      simp only [rv,hg]
      exact ⟨DY hc,trivial,h1.1,h1.2.1,h1.2.2.1,h1.2.2.2.1,h1.2.2.2.2,trivial⟩
     ·cases e
    ·cases e
 | .rp b sz i j,y,e=>by
  simp only [tr] at e
  split at e
  ·rename_i k hk
   cases hs:nQ S k b with
   |false=>rw [hs] at e;cases e
   |true=>rw [hs] at e;simp only [cond_true,Option.some.injEq] at e;subst e;simp only [rv,Ac hs,and_self]
  ·cases hc:(S.map Prod.snd).contains b with
   |true=>rw [hc] at e;cases e
   |false=>
    rw [hc] at e
    simp only [cond_false] at e
    split at e
    ·rename_i x1 bU xs hg
     split at e
     ·rename_i h1
      simp only [Option.some.injEq] at e
      subst e
      simp only [rv,hg]
      simp only [h1.1,h1.2,and_true,true_and]
      exact DY hc
     ·cases e
    ·cases e
 | .ptr b j,y,e=>by
  simp only [tr] at e
  split at e
  ·rename_i k hk
   cases hs:nQ S k b with
   |false=>rw [hs] at e;cases e
   |true=>rw [hs] at e;simp only [cond_true,Option.some.injEq] at e;subst e;simp only [rv,Ac hs,and_self]
  ·cases e
 | .mp b,y,e=>by
  simp only [tr] at e
  split at e
  ·rename_i k hk
   cases hs:nQ S k b with
   |false=>rw [hs] at e;cases e
   |true=>rw [hs] at e;simp only [cond_true,Option.some.injEq] at e;subst e;simp only [rv,Ac hs]
  ·cases e
 | .agg cs,y,e=>by
  simp only [tr] at e
  split at e
  ·rename_i ys hy;cases e;simp only [rv];exact lX cs ys hy
  ·cases e
 | .aN cs,y,e=>by
  simp only [tr] at e
  split at e
  ·rename_i ys hy;cases e;simp only [rv];exact lX cs ys hy
  ·cases e
 | .fn f cs,y,e=>by
  simp only [tr] at e
  split at e
  ·rename_i ys hy;cases e;simp only [rv,true_and];exact lX cs ys hy
  ·cases e
 | .v a,y,e=>by simp only [tr,Option.some.injEq] at e;subst e;simp only [rv]
 | .sl sz xs,y,e=>by simp only [tr,Option.some.injEq] at e;subst e;simp only [rv,and_self]
 | .bB cs j,y,e=>by simp only [tr,Option.some.injEq] at e;subst e;simp only [rv,and_self]
theorem lX {h:List (Nat×Ob)} {S inv:List (Nat×Nat)}:∀ (xs ys:List AV),iL h S inv xs=some ys->au h S [] ys xs
 |[],ys,e=>by simp only [iL,Option.some.injEq] at e;subst e;simp only [au]
 |c::cs,ys,e=>by
  simp only [iL] at e
  split at e
  ·rename_i y hy
   split at e
   ·rename_i ys' hys
    cases e
    simp only [au]
    exact ⟨vo c y hy,lX cs ys' hys⟩
   ·cases e
  ·cases e
end
mutual
theorem Wq {h:List (Nat×Ob)} {S inv:List (Nat×Nat)}:∀ (x:AV),x.pure=true->tr h S inv x=some x
 | .v a,_=>by simp only [tr]
 | .sl sz xs,_=>by simp only [tr]
 | .bB cs j,_=>by simp only [tr]
 | .agg cs,hx=>by simp only [tr,Ad cs (by simpa only [AV.pure] using hx)]
 | .aN cs,hx=>by simp only [tr,Ad cs (by simpa only [AV.pure] using hx)]
 | .fn f cs,hx=>by simp only [tr,Ad cs (by simpa only [AV.pure] using hx)]
 | .own ..,hx=>by simp [AV.pure] at hx
 | .ptr ..,hx=>by simp [AV.pure] at hx
 | .rp ..,hx=>by simp [AV.pure] at hx
 | .mp ..,hx=>by simp [AV.pure] at hx
theorem Ad {h:List (Nat×Ob)} {S inv:List (Nat×Nat)}:∀ (xs:List AV),bf xs=true->iL h S inv xs=some xs
 |[],_=>by simp only [iL]
 |c::cs,hx=>by
  simp only [bf,Bool.and_eq_true] at hx
  simp only [iL,Wq c hx.1,Ad cs hx.2]
end
def xu (h:List (Nat×Ob)) (S inv:List (Nat×Nat)):List (Value×AV)->Option (List (Value×AV))
 |[]=>some []
 |(k,x)::l=>match tr h S inv x with
  |some y=>match xu h S inv l with
   |some l'=>some ((k,y)::l')
   |none=>none
  |none=>none
theorem Le {h:List (Nat×Ob)} {S inv:List (Nat×Nat)}:∀ (xs ys:List (Value×AV)),xu h S inv xs=some ys->kJ h S [] ys xs
 |[],ys,e=>by simp only [xu,Option.some.injEq] at e;subst e;simp only [kJ]
 |(k,x)::l,ys,e=>by
  simp only [xu] at e
  split at e
  ·rename_i y hy
   split at e
   ·rename_i l' hl
    cases e
    simp only [kJ,true_and]
    exact ⟨vo x y hy,Le l l' hl⟩
   ·cases e
  ·cases e
def DZ (h:List (Nat×Ob)) (S inv:List (Nat×Nat)):Ob->Option Ob
 | .box cs=>match iL h S inv cs with
  |some ys=>some (.box ys)
  |none=>none
 | .row e sz xs=>some (.row e sz xs)
 | .map es=>match xu h S inv es with
  |some ys=>some (.map ys)
  |none=>none
 | .dead=>none
theorem Ws {h:List (Nat×Ob)} {S inv:List (Nat×Nat)} {x y:Ob} (e:DZ h S inv x=some y):aR h S [] y x:=by
 unfold DZ at e
 split at e
 ·split at e
  ·rename_i ys hy;cases e;simp only [aR];exact lX _ _ hy
  ·cases e
 ·cases e;simp only [aR,and_self]
 ·split at e
  ·rename_i ys hy;cases e;simp only [aR];exact Le _ _ hy
  ·cases e
 ·cases e
theorem D5 {h h':List (Nat×Ob)} {S:List (Nat×Nat)} {N:List Nat}:∀ (l:List (Nat×Nat)),(∀ k b,(k,b) ∈ l->∃ y x,get h' k=some y/\get h b=some x/\aR h S N y x)->bq h S N h' l
 |[],_=>by simp only [bq]
 |(k,b)::l,hh=>by
  obtain ⟨y,x,h1,h2,h3⟩:=hh k b (List.mem_cons_self ..)
  simp only [bq,h1,h2]
  exact ⟨h3,D5 l fun k b hm=>hh k b (List.mem_cons_of_mem _ hm)⟩
def oO:List Nat->Nat->List (Nat×Nat)
 |[],_=>[]
 |b::O,k=>(k,b)::oO O (k+1)
theorem Lf:∀ (O:List Nat) (k:Nat) (n b:Nat),(n,b) ∈ oO O k->∃ i,n=k+i/\O[i]? =some b
 |[],k,n,b,h=>by simp [oO] at h
 |a::O,k,n,b,h=>by
  simp only [oO,List.mem_cons,Prod.mk.injEq] at h
  rcases h with ⟨rfl,rfl⟩|h
  ·exact ⟨0,rfl,rfl⟩
  ·obtain ⟨i,h1,h2⟩:=Lf O (k+1) n b h
   exact ⟨i+1,by omega,by simpa using h2⟩
def exV:List Nat->Nat->List (Nat×Nat)
 |[],_=>[]
 |b::O,k=>(b,k)::exV O (k+1)
def jH (S:List Nat):List (Nat×Nat):=S.map fun b=>(b,b)
def xw (h:List (Nat×Ob)) (S inv:List (Nat×Nat)):Nat->Nat->Option (List (List AV))
 |_,0=>some []
 |i,m+1=>match get h i with
  |some (.box cs)=>match iL h S inv cs with
   |some ys=>match xw h S inv (i+1) m with
    |some l=>some (ys::l)
    |none=>none
   |none=>none
  |_=>none
theorem Lg {h:List (Nat×Ob)} {S inv:List (Nat×Nat)}:∀ (m i:Nat) (l:List (List AV)),xw h S inv i m=some l->l.length=m/\∀ k,k<m->∃ cs ys,get h (i+k)=some (.box cs)/\l[k]? =some ys/\iL h S inv cs=some ys
 |0,i,l,e=>by simp only [xw,Option.some.injEq] at e;subst e;exact ⟨rfl,fun k hk=>absurd hk (by omega)⟩
 |m+1,i,l,e=>by
  simp only [xw] at e
  split at e
  ·rename_i cs hg
   split at e
   ·rename_i ys hy
    split at e
    ·rename_i l' hl
     cases e
     obtain ⟨h1,h2⟩:=Lg m (i+1) l' hl
     refine ⟨by simp [h1],fun k hk=> ?_⟩
     cases k with
     |zero=>exact ⟨cs,ys,hg,rfl,hy⟩
     |succ k=>
      obtain ⟨cs',ys',h3,h4,h5⟩:=h2 k (by omega)
      exact ⟨cs',ys',by rw [show i+(k+1)=i+1+k by omega];exact h3,by simpa using h4,h5⟩
    ·cases e
   ·cases e
  ·cases e
def sJ (h:List (Nat×Ob)):List Nat->Option (List Ob)
 |[]=>some []
 |b::O=>match get h b with
  |some (.row e sz xs)=>match sJ h O with
   |some l=>some (.row e sz xs::l)
   |none=>none
  |some (.box cs)=>bif bf cs then match sJ h O with
   |some l=>some (.box cs::l)
   |none=>none else none
  |_=>none
theorem D6 {h:List (Nat×Ob)}:∀ (O:List Nat) (l:List Ob),sJ h O=some l->l.length=O.length/\∀ (i b:Nat),O[i]? =some b->∃ o,l[i]? =some o/\get h b=some o/\rowOk o=true
 |[],l,e=>by simp only [sJ,Option.some.injEq] at e;subst e;exact ⟨rfl,fun i b h=>by simp at h⟩
 |a::O,l,e=>by
  simp only [sJ] at e
  split at e
  ·rename_i e1 sz xs hg
   split at e
   ·rename_i l' hl
    cases e
    obtain ⟨h1,h2⟩:=D6 O l' hl
    refine ⟨by simp [h1],fun i b hi=> ?_⟩
    cases i with
    |zero=>simp at hi;subst hi;exact ⟨_,rfl,hg,rfl⟩
    |succ i=>simpa using h2 i b (by simpa using hi)
   ·cases e
  ·rename_i cs hg
   cases hp:bf cs with
   |false=>rw [hp] at e;cases e
   |true=>
    rw [hp] at e
    simp only [cond_true] at e
    split at e
    ·rename_i l' hl
     cases e
     obtain ⟨h1,h2⟩:=D6 O l' hl
     refine ⟨by simp [h1],fun i b hi=> ?_⟩
     cases i with
     |zero=>simp at hi;subst hi;exact ⟨_,rfl,hg,hp⟩
     |succ i=>simpa using h2 i b (by simpa using hi)
    ·cases e
  ·cases e
def kR (m:Nat) (O:List Nat) (vs:List AV) (h:List (Nat×Ob)):Option (AV×List (List AV)×List Ob):=
 match tr h (jH (List.range m)++oO O 4) (jH (List.range m)++exV O 4) (aD vs) with
 |some r=>match xw h (jH (List.range m)++oO O 4) (jH (List.range m)++exV O 4) 0 m with
  |some bs=>match sJ h O with
   |some es=>bif decide (m<=4)&&fw h (jH (List.range m)++oO O 4) [] (outs bs es) then some (r,bs,es) else none
   |none=>none
  |none=>none
 |none=>none
theorem xA {m:Nat} {O:List Nat} {vs:List AV} {t:List (Nat×AV)} {h:List (Nat×Ob)} {res:List gY} {r:AV} {bs:List (List AV)} {es:List Ob} (hv:gZ t h res=some vs) (e:kR m O vs h=some (r,bs,es)):
 Fin res r bs es t h/\bs.length=m/\es.all rowOk=true:=by
 simp only [kR] at e
 split at e
 ·rename_i r' hr
  split at e
  ·rename_i bs' hb
   split at e
   ·rename_i es' he
    cases ho:(decide (m<=4)&&fw h (jH (List.range m)++oO O 4) [] (outs bs' es')) with
    |false=>rw [ho] at e;cases e
    |true=>
     rw [ho] at e
     simp only [cond_true,Option.some.injEq,Prod.mk.injEq] at e
     obtain ⟨rfl,rfl,rfl⟩:=e
     simp only [Bool.and_eq_true,decide_eq_true_eq] at ho
     obtain ⟨hm,ho⟩:=ho
     obtain ⟨hl,hg⟩:=Lg _ _ _ hb
     obtain ⟨hl',hg'⟩:=D6 _ _ he
     refine ⟨⟨_,[],vs,hv,ho,D5 _ fun k b hmem=> ?_,by simp only [gG],vo _ _ hr⟩,hl,?_⟩
     ·rcases List.mem_append.1 hmem with hmem|hmem
      ·simp only [jH,List.mem_map,List.mem_range,Prod.mk.injEq] at hmem
       obtain ⟨i,hi,rfl,rfl⟩:=hmem
       obtain ⟨cs,ys,h1,h2,h3⟩:=hg i hi
       rw [Nat.zero_add] at h1
       exact ⟨.box ys,.box cs,uU h2,h1,lX _ _ h3⟩
      ·obtain ⟨i,rfl,hi⟩:=Lf _ _ _ _ hmem
       obtain ⟨o,h1,h2,h3⟩:=hg' i b hi
       refine ⟨o,o,zI (by omega) h1,h2,?_⟩
       cases o with
       |row e sz xs=>simp only [aR,and_self]
       |box cs=>simp only [aR];exact ic cs h3
       |map es=>simp [rowOk] at h3
       |dead=>simp [rowOk] at h3
     ·rw [List.all_eq_true]
      intro o ho'
      obtain ⟨i,hi⟩:=List.mem_iff_getElem?.1 ho'
      have hlt:=(List.getElem?_eq_some_iff.1 hi).1
      obtain ⟨o',h1,_,h3⟩:=hg' i _ (List.getElem?_eq_getElem (show i<O.length by omega))
      rw [hi] at h1
      cases h1
      exact h3
   ·cases e
  ·cases e
 ·cases e
def mY {α:Type}:List (Nat×α)->List Nat->List (Nat×α)
 |[],_=>[]
 |(k,x)::l,seen=>bif seen.contains k then mY l seen else (k,x)::mY l (k::seen)
theorem D7 {α:Type}:∀ (l:List (Nat×α)) (seen:List Nat) (k:Nat) (x:α),(k,x) ∈ mY l seen->get l k=some x/\seen.contains k=false
 |[],seen,k,x,h=>by simp [mY] at h
 |(a,y)::l,seen,k,x,h=>by
  simp only [mY] at h
  cases hc:seen.contains a with
  |true=>
   rw [hc] at h
   simp only [cond_true] at h
   obtain ⟨h1,h2⟩:=D7 l seen k x h
   have:a≠k:=by intro e;subst e;rw [hc] at h2;cases h2
   exact ⟨by rw [gq _ _ _ _ this];exact h1,h2⟩
  |false=>
   rw [hc] at h
   simp only [cond_false,List.mem_cons,Prod.mk.injEq] at h
   rcases h with ⟨rfl,rfl⟩|h
   ·exact ⟨kr _ _ _,hc⟩
   ·obtain ⟨h1,h2⟩:=D7 l (a::seen) k x h
    simp only [List.contains_cons,Bool.or_eq_false_iff,beq_eq_false_iff_ne,ne_eq] at h2
    exact ⟨by rw [gq _ _ _ _ (fun e=>h2.1 e.symm)];exact h1,h2.2⟩
def qE (Z:List Nat):List (Nat×Ob)->List Nat
 |[]=>[]
 |(_,.dead)::l=>qE Z l
 |(k,_)::l=>bif Z.contains k then qE Z l else k::qE Z l
def Ae (h:List (Nat×Ob)) (S:List (Nat×Nat)):List Nat->Option (List (Nat×Ob))
 |[]=>some []
 |b::l=>match get h b with
  |some o=>match DZ h S S o with
   |some y=>match Ae h S l with
    |some h'=>some ((b,y)::h')
    |none=>none
   |none=>none
  |none=>none
theorem Lh {h:List (Nat×Ob)} {S:List (Nat×Nat)}:∀ (L:List Nat) (h':List (Nat×Ob)),Ae h S L=some h'->∀ b ∈ L,∃ y x,get h' b=some y/\get h b=some x/\aR h S [] y x
 |[],h',e,b,hb=>by simp at hb
 |a::l,h',e,b,hb=>by
  simp only [Ae] at e
  split at e
  ·rename_i x hg
   split at e
   ·rename_i y hy
    split at e
    ·rename_i h0 hl
     cases e
     by_cases hab:a=b
     ·subst hab;exact ⟨y,x,kr _ _ _,hg,Ws hy⟩
     ·have hb':b ∈ l:=by
       rcases List.mem_cons.1 hb with h|h
       ·exact absurd h.symm hab
       ·exact h
      obtain ⟨y',x',h1,h2,h3⟩:=Lh l h0 hl b hb'
      exact ⟨y',x',by rw [gq _ _ _ _ hab];exact h1,h2,h3⟩
    ·cases e
   ·cases e
  ·cases e
def vv (h:List (Nat×Ob)) (S:List (Nat×Nat)):List (Nat×AV)->List (Nat×AV)
 |[]=>[]
 |(k,x)::l=>match tr h S S x with
  |some y=>(k,y)::vv h S l
  |none=>vv h S l
theorem D8 {h:List (Nat×Ob)} {S:List (Nat×Nat)} {t:List (Nat×AV)}:∀ (l:List (Nat×AV)),(∀ k x,(k,x) ∈ l->get t k=some x)->bQ h S [] t (vv h S l)
 |[],_=>by simp only [vv,bQ]
 |(k,x)::l,hh=>by
  simp only [vv]
  split
  ·rename_i y hy
   simp only [bQ,hh k x (List.mem_cons_self ..)]
   exact ⟨vo _ _ hy,D8 l fun k x hm=>hh k x (List.mem_cons_of_mem _ hm)⟩
  ·exact D8 l fun k x hm=>hh k x (List.mem_cons_of_mem _ hm)
def xB (Z:List Nat) (t:List (Nat×AV)) (h:List (Nat×Ob)):Option (List (Nat×AV)×List (Nat×Ob)):=
 match Ae h (jH (qE Z (mY h []))) (qE Z (mY h [])) with
 |some h'=>bif fw h (jH (qE Z (mY h []))) [] h' then some (vv h (jH (qE Z (mY h []))) (mY t []),h') else none
 |none=>none
theorem Li {Z:List Nat} {t t':List (Nat×AV)} {h h':List (Nat×Ob)} (e:xB Z t h=some (t',h')):wz t h t' h':=by
 simp only [xB] at e
 generalize qE Z (mY h [])=S at e
 split at e
 ·rename_i h0 hh
  cases ho:fw h (jH S) [] h0 with
  |false=>rw [ho] at e;cases e
  |true=>
   rw [ho] at e
   simp only [cond_true,Option.some.injEq,Prod.mk.injEq] at e
   obtain ⟨rfl,rfl⟩:=e
   refine wz.mk (jH S) (by simp [jH]) ho (D5 _ fun k b hm=> ?_) (D8 _ fun k x hm=>(D7 _ _ _ _ hm).1)
   simp only [jH,List.mem_map,Prod.mk.injEq] at hm
   obtain ⟨i,hi,rfl,rfl⟩:=hm
   exact Lh _ _ hh i hi
 ·cases e
theorem Wt {Z:List Nat} {n:Nat} {t t':List (Nat×AV)} {h h':List (Nat×Ob)} (e:xB Z t h=some (t',h')):Wk ⟨n,t,h⟩ ⟨n,t',h'⟩:=by
 intro C ρ U a w hR hU
 obtain ⟨ρ',U',h1,h2⟩:=Li e C ρ U a w ⟨hR.hr,hR.defers,hR.sz,hR.tm⟩
 exact ⟨ρ',U',⟨h1.hr,h1.defers,h1.sz,h1.tm⟩,fun b hb=>hU b (h2 b hb)⟩
abbrev RunT:=FuncId->List AV->List (List AV)->List Ob->Option (List AV×List (Nat×Ob))
def fK (P:Program) (run:RunT):Prop:=∀ f xs bs gs vs h,run f xs bs gs=some (vs,h)->∃ t res,gZ t h res=some vs/\∀ r bs' es,Fin res r bs' es t h->dW P f xs bs gs r bs' es
theorem dW.xC {P:Program} {f:FuncId} {xs:List AV} {bs bs':List (List AV)} {r:AV} {es:List Ob} (hF:dW P f xs bs [] r bs' es):Fn P f xs bs r bs' es:=
 ⟨hF.1,fun C ρ U w vals hr hU hv=>hF.2 C ρ U w vals (by simpa [outs,bS] using hr) (fun b hb=>by have:=hU b hb;omega) hv⟩
def D9 (h:List (Nat×Ob)) (L:List Nat):List Nat:=L.filter fun b=>match get h b with
 |some (.box _)=>true
 |_=>false
def xD (h:List (Nat×Ob)) (L:List Nat):List Nat:=L.filter fun b=>match get h b with
 |some (.row _ _ _)=>true
 |_=>false
def cont (h:List (Nat×Ob)) (B:List Nat):List Nat:=B.flatMap fun b=>match get h b with
 |some (.box cs)=>bX cs
 |_=>[]
def Wu (h:List (Nat×Ob)) (ys:List AV):List Nat:=
 let B:=(D9 h (bX ys)).eraseDups
 match B with
 |[]=>[]
 |B=>let B:=(B++D9 h (cont h B)).eraseDups
  (B++D9 h (cont h B)).eraseDups
def kS:List AV->List Nat
 |[]=>[]
 | .own b _ _ _::l=>b::kS l
 |_::l=>kS l
def Af (m:Nat):List AV->List Nat
 |[]=>[]
 | .ptr b _::l=>bif Nat.blt b m then Af m l else b::Af m l
 |_::l=>Af m l
def xE:List AV->List Nat
 |[]=>[]
 | .own b _ _ _::l=>b::xE l
 | .agg cs::l=>bif Nat.blt 2 cs.length then kS cs++xE l else xE l
 |_::l=>xE l
def qF (m:Nat) (h:List (Nat×Ob)) (vs:List AV):List Nat:=xD h (xE vs)++Af m vs
def qG:Ob->Bool
 | .row _ _ xs=>xs.all jD
 | .box cs=>jD cs
 |_=>false
theorem Ea:∀ (cs:List AV),jD cs=true->∀ c ∈ cs,na c=true
 |[],_,c,h=>by simp at h
 |x::cs,hh,c,h=>by
  simp only [jD,Bool.and_eq_true] at hh
  rcases List.mem_cons.1 h with rfl|h
  ·exact hh.1
  ·exact Ea cs hh.2 c h
theorem Lj {o:Ob} (h:qG o=true):qx o:=by
 cases o with
 |row e sz xs=>
  simp only [qG,List.all_eq_true] at h
  exact fun x hx c hc=>Ea x (h x hx) c hc
 |box cs=>exact Ea cs h
 |map es=>simp [qG] at h
 |dead=>simp [qG] at h
def sK (Bx:List (Nat×List AV)):List (Nat×Ob):=Bx.map fun p=>(p.1,Ob.box p.2)
section
variable {C:Ctx} {ρ:Nat->Loc} {U:Nat->Prop} {h:List (Nat×Ob)} {w:World}
theorem Ll (hr:HR C ρ U h w) (Z:List Nat):bK ρ (stay h Z) []=dI ρ Z:=by
 funext k
 simp only [bK,uZ,dI]
 by_cases hkz:k ∈ Z
 ·simp [hkz]
 ·by_cases hkh:k ∈ h.map Prod.fst
  ·rw [if_pos ⟨hkh,hkz⟩,if_neg hkz]
  ·rw [if_neg (fun h=>hkh h.1),if_neg hkz]
   have:get h k=none:=by
    cases hg:get h k with
    |none=>rfl
    |some o=>exact absurd (List.mem_map.2 ⟨_,get_mem hg,rfl⟩) hkh
   rw [hr.hd k this];simp
theorem Lm (hr:HR C ρ U h w) (Z:List Nat):∀ k,iK (stay h Z) [] k->U k:=by
 intro k hk
 rcases hk with hk|hk
 ·obtain ⟨c,hc⟩:=qo hk
  rw [uZ] at hc
  split at hc
  ·rename_i h1
   obtain ⟨o,ho⟩:=qo h1.1
   exact (hr.hp k o ho).1
  ·cases hc
 ·simp at hk
theorem HR.Lp (hr:HR C ρ U h w) (Z:List Nat):∀ (Bx:List (Nat×List AV)) (U1:Nat->Prop) (h1:List (Nat×Ob)),(∀ p ∈ Bx,p.1 ∉ Z/\∃ cs,get h p.1=some (.box cs)/\au h (stay h Z) [] p.2 cs)->
 (∀ k,U1 k->U k)->(∀ k,U k->U1 k)->HR C (dI ρ Z) U1 h1 w->∃ U2,(∀ k,U2 k->U k)/\(∀ k,U k->U2 k)/\HR C (dI ρ Z) U2 (sK Bx++h1) w
 |[],U1,h1,_,qz,qA,hr1=>⟨U1,qz,qA,hr1⟩
 |(b,ds)::Bx,U1,h1,hB,qz,qA,hr1=>by
  obtain ⟨U2,hu1,hu2,hr2⟩:=HR.Lp hr Z Bx U1 h1 (fun p hp=>hB p (List.mem_cons_of_mem _ hp)) qz qA hr1
  obtain ⟨Lr,cs,hg,hv⟩:=hB (b,ds) (List.mem_cons_self ..)
  simp only at Lr hg hv
  obtain ⟨hub,g,o,n,e,cells,h1',h2',h3',h4',h5'⟩:=hr.hp b _ hg
  have hkl:dI ρ Z b=ρ b:=by unfold dI;rw [if_neg Lr]
  have hm:Moved C (dI ρ Z) U2 (sK Bx++h1) w b (dI ρ Z b) w:=⟨rfl,rfl,rfl,Nat.le_refl _,fun _ _ _=>rfl,.inl ⟨hu2 _ hub,rfl⟩⟩
  have hup:up (dI ρ Z) b (dI ρ Z b)=dI ρ Z:=by
   funext k
   unfold up
   by_cases e:k=b
   ·rw [if_pos e,e]
   ·rw [if_neg e]
  have hl:=fT _ _ hv
  have:=hm.hr hr2 (ob:= .box ds) (fun _=>⟨ds,rfl⟩) (by
   rw [hup,hkl]
   refine ⟨g,o,n,e,cells,h1',h2',h3',by omega,fun j c hj=> ?_⟩
   obtain ⟨x,hx,hxv⟩:=fU _ _ hv j c hj
   obtain ⟨u,hu,huv⟩:=h5' j x hx
   have:=jC hr huv c hxv
   rw [Ll hr Z] at this
   exact ⟨u,hu,this.mono (fun _ h=>h) (fun _ _=>rfl) (fun k hk=> .inl (hu2 _ (Lm hr Z k hk))) (fun _ _=> .inl rfl)⟩)
  rw [hup] at this
  refine ⟨fq U2 b,fun k hk=> ?_,fun k hk=> .inl (hu2 k hk),this⟩
  rcases hk with hk|rfl
  ·exact hu1 k hk
  ·exact hub
theorem Wv {P:Program} {nm:Nat} {f:FuncId} {args args':List AV} {Q:AV->List (Nat×Ob)->Prop} (Z:List Nat) (Bx:List (Nat×List AV))
 (hz:∀ b ∈ Z,∃ e sz xs,get h b=some (.row e sz xs)) (hB:∀ p ∈ Bx,p.1 ∉ Z/\∃ cs,get h p.1=some (.box cs)/\au h (stay h Z) [] p.2 cs)
 (ha:au h (stay h Z) [] args' args) (hk:nE P nm f args' (sK Bx++(kills Z++h)) Q):nE P nm f args h Q:=by
 refine ⟨hk.1,fun C ρ U w vals hr hU hv=> ?_⟩
 obtain ⟨U0,qz,qA,hr0⟩:=hr.kills Z hz
 obtain ⟨U',hV1,hV2,hr'⟩:=HR.Lp hr Z Bx U0 _ hB qz qA hr0
 have lS:Later U ρ (dI ρ Z):=fun b _=>by
  unfold dI
  by_cases e:b ∈ Z
  ·rw [if_pos e];exact .inr rfl
  ·rw [if_neg e];exact .inl rfl
 have DC:∀ g,ay C ρ w g->ay C (dI ρ Z) w g:=fun g hg=>⟨hg.1,hg.2.1,fun ⟨b,o,n,hb⟩=>by
  unfold dI at hb
  split at hb
  ·cases hb
  ·exact hg.2.2 ⟨b,o,n,hb⟩⟩
 have hl:=fT _ _ ha
 have hv':VL w (ay C (dI ρ Z) w) (dI ρ Z) U' args' vals:=by
  refine ⟨by rw [hl];exact hv.1,fun i x u hi hu=> ?_⟩
  obtain ⟨y,hy,hxy⟩:=fU _ _ ha i x hi
  have:=jC hr (hv.2 i y u hy hu) x hxy
  rw [Ll hr Z] at this
  exact this.mono (fun _ h=>h) (fun _ _=>rfl) (fun k hk=>hV2 k (Lm hr Z k hk)) (fun _ _=> .inl rfl)
 refine (hk.2 C (dI ρ Z) U' w vals hr' (fun b hb=>hU b (hV1 b hb)) hv').mono fun e w' hpost=> ?_
 obtain ⟨v,r,h',ρ',rV,rfl,h1,h2,h3,h4,h5⟩:=hpost
 exact ⟨v,r,h',ρ',rV,rfl,h1,h2,fun x u hx=>h3 x u (hx.mono DC (fun _ _=>rfl) hV2 lS),fun b hb=>(h4 b hb).imp (hV1 b) id,h5⟩
end
theorem Ag {h:List (Nat×Ob)} {Z:List Nat} {k b:Nat} (e:get (stay h Z) k=some b):k=b/\k ∉ Z/\∃ o,get h k=some o:=by
 rw [uZ] at e
 split at e
 ·rename_i h1
  cases e
  exact ⟨rfl,h1.2,qo h1.1⟩
 ·cases e
theorem xG {h:List (Nat×Ob)} {Z:List Nat} {k:Nat} {o:Ob} (e:get h k=some o) (hz:k ∉ Z):get (stay h Z) k=some k:=by
 rw [uZ,if_pos ⟨List.mem_map.2 ⟨_,get_mem e,rfl⟩,hz⟩]
theorem Eb {h:List (Nat×Ob)} {Z:List Nat} {b:Nat}:b ∈ (stay h Z).map Prod.snd->b ∉ Z:=by
 intro hm
 simp only [stay,List.map_map,List.mem_map,List.mem_filter,Function.comp] at hm
 obtain ⟨a,⟨_,h2⟩,rfl⟩:=hm
 simpa using h2
theorem Ec {h:List (Nat×Ob)} {Z:List Nat} {b:Nat} {o:Ob} (e:get h b=some o) (hn:b ∉ (stay h Z).map Prod.snd):b ∈ Z:=by
 apply Classical.byContradiction
 intro hz
 refine hn ?_
 have:=get_mem (xG e hz)
 exact List.mem_map.2 ⟨_,this,rfl⟩
mutual
theorem Ww {h h':List (Nat×Ob)} {Z:List Nat}:∀ (y x:AV),(∀ b ∈ deep x,get h' b=get h b)->rv h (stay h Z) [] y x->rv h' (stay h' Z) [] y x
 | .own k sz off len,x,hh,hx=>by
  cases x<;>simp only [rv] at hx ⊢
  ·split at hx
   ·rename_i heq;cases heq
   ·rename_i heq;cases heq;exact absurd hx.1 (by simp)
   ·exact hx.elim
  ·rename_i b sz' off' len'
   obtain ⟨h1,h2⟩:=hx
   obtain ⟨rfl,h3,o,h4⟩:=Ag h1
   exact ⟨xG (by rw [hh _ (by simp [deep])];exact h4) h3,h2⟩
 | .ptr k j,x,hh,hx=>by
  cases x<;>simp only [rv] at hx ⊢
  obtain ⟨h1,h2⟩:=hx
  obtain ⟨rfl,h3,o,h4⟩:=Ag h1
  exact ⟨xG (by rw [hh _ (by simp [deep])];exact h4) h3,h2⟩
 | .rp k sz i j,x,hh,hx=>by
  cases x<;>simp only [rv] at hx ⊢
  obtain ⟨h1,h2⟩:=hx
  obtain ⟨rfl,h3,o,h4⟩:=Ag h1
  exact ⟨xG (by rw [hh _ (by simp [deep])];exact h4) h3,h2⟩
 | .mp k,x,hh,hx=>by
  cases x<;>simp only [rv] at hx ⊢
  obtain ⟨rfl,h3,o,h4⟩:=Ag hx
  exact xG (by rw [hh _ (by simp [deep])];exact h4) h3
 | .sl sz ys,x,hh,hx=>by
  cases x<;>simp only [rv] at hx ⊢
  ·split at hx
   ·rename_i heq;cases heq
   ·rename_i heq;cases heq;exact hx
   ·rename_i heq;cases heq
   ·exact hx.elim
  ·exact hx
  ·rename_i b sz' off' len'
   obtain ⟨h1,h2,h3⟩:=hx
   rw [hh b (by simp [deep])]
   refine ⟨fun hm=> ?_,h2,h3⟩
   split at h3
   ·rename_i e Wx xs hg;exact Eb hm (Ec hg h1)
   ·rename_i cs hg;exact Eb hm (Ec hg h1)
   ·exact h3
 | .bB cs j,x,hh,hx=>by
  cases x<;>simp only [rv] at hx ⊢
  ·rename_i b sz' i' j'
   obtain ⟨h1,h2,h3⟩:=hx
   rw [hh b (by simp [deep])]
   refine ⟨fun hm=> ?_,h2,h3⟩
   split at h3
   ·rename_i e Wx xs hg;exact Eb hm (Ec hg h1)
   ·exact h3
  ·exact hx
 | .agg ys,x,hh,hx=>by
  cases x<;>simp only [rv] at hx ⊢
  exact vw ys _ (by simpa only [deep] using hh) hx
 | .aN ys,x,hh,hx=>by
  cases x<;>simp only [rv] at hx ⊢
  exact vw ys _ (by simpa only [deep] using hh) hx
 | .fn f ys,x,hh,hx=>by
  cases x<;>simp only [rv] at hx ⊢
  exact ⟨hx.1,vw ys _ (by simpa only [deep] using hh) hx.2⟩
 | .v a,x,hh,hx=>by simp only [rv] at hx ⊢;exact hx
theorem vw {h h':List (Nat×Ob)} {Z:List Nat}:∀ (ys xs:List AV),(∀ b ∈ bX xs,get h' b=get h b)->au h (stay h Z) [] ys xs->au h' (stay h' Z) [] ys xs
 |[],[],_,_=>by simp only [au]
 |y::ys,x::xs,hh,hx=>by
  simp only [au] at hx ⊢
  simp only [bX,List.mem_append] at hh
  exact ⟨Ww y x (fun b hb=>hh b (.inl hb)) hx.1,vw ys xs (fun b hb=>hh b (.inr hb)) hx.2⟩
 |[],_::_,_,hx=>by simp [au] at hx
 |_::_,[],_,hx=>by simp [au] at hx
end
def xH (h:List (Nat×Ob)) (S:List (Nat×Nat)):List Nat->Option (List (Nat×List AV))
 |[]=>some []
 |b::B=>match get h b with
  |some (.box cs)=>match iL h S S cs with
   |some ds=>match xH h S B with
    |some l=>some ((b,ds)::l)
    |none=>none
   |none=>none
  |_=>none
theorem Ls {h:List (Nat×Ob)} {S:List (Nat×Nat)}:∀ (B:List Nat) (Bx:List (Nat×List AV)),xH h S B=some Bx->∀ p ∈ Bx,p.1 ∈ B/\∃ cs,get h p.1=some (.box cs)/\au h S [] p.2 cs
 |[],Bx,e,p,hp=>by simp only [xH,Option.some.injEq] at e;subst e;simp at hp
 |b::B,Bx,e,p,hp=>by
  simp only [xH] at e
  split at e
  ·rename_i cs hg
   split at e
   ·rename_i ds hd
    split at e
    ·rename_i l hl
     cases e
     rcases List.mem_cons.1 hp with rfl|hp
     ·exact ⟨List.mem_cons_self ..,cs,hg,lX _ _ hd⟩
     ·obtain ⟨h1,h2⟩:=Ls B l hl p hp
      exact ⟨List.mem_cons_of_mem _ h1,h2⟩
    ·cases e
   ·cases e
  ·cases e
def xI (h:List (Nat×Ob)) (S inv:List (Nat×Nat)):List Nat->Option (List (List AV))
 |[]=>some []
 |b::B=>match get h b with
  |some (.box cs)=>match iL [] S inv cs with
   |some ds=>match xI h S inv B with
    |some l=>some (ds::l)
    |none=>none
   |none=>none
  |_=>none
theorem Lu {h:List (Nat×Ob)} {S inv:List (Nat×Nat)}:∀ (B:List Nat) (bs:List (List AV)),xI h S inv B=some bs->gM h S B bs
 |[],bs,e=>by simp only [xI,Option.some.injEq] at e;subst e;simp only [gM]
 |b::B,bs,e=>by
  simp only [xI] at e
  split at e
  ·rename_i cs hg
   split at e
   ·rename_i ds hd
    split at e
    ·rename_i l hl
     cases e
     simp only [gM,hg]
     exact ⟨lX _ _ hd,Lu B l hl⟩
    ·cases e
   ·cases e
  ·cases e
def xJ (h:List (Nat×Ob)):List Nat->Option (List Ob)
 |[]=>some []
 |b::G=>match get h b with
  |some (.row e sz xs)=>match xJ h G with
   |some l=>some (.row e sz xs::l)
   |none=>none
  |_=>none
theorem Lv {h:List (Nat×Ob)}:∀ (G:List Nat) (gs:List Ob),xJ h G=some gs->gP h G gs
 |[],gs,e=>by simp only [xJ,Option.some.injEq] at e;subst e;simp only [gP]
 |b::G,gs,e=>by
  simp only [xJ] at e
  split at e
  ·rename_i e1 sz xs hg
   split at e
   ·rename_i l hl
    cases e
    simp only [gP,hg,isRow,and_self,true_and]
    exact Lv G l hl
   ·cases e
  ·cases e
def xK (S inv:List (Nat×Nat)):List (List AV)->Option (List (List AV))
 |[]=>some []
 |c::l=>match iL [] S inv c with
  |some c'=>match xK S inv l with
   |some l'=>some (c'::l')
   |none=>none
  |none=>none
theorem Lx {S inv:List (Nat×Nat)}:∀ (l l':List (List AV)),xK S inv l=some l'->jF S l' l
 |[],l',e=>by simp only [xK,Option.some.injEq] at e;subst e;simp only [jF]
 |c::l,l',e=>by
  simp only [xK] at e
  split at e
  ·rename_i c' hc
   split at e
   ·rename_i l0 hl
    cases e
    simp only [jF]
    exact ⟨lX _ _ hc,Lx l l0 hl⟩
   ·cases e
  ·cases e
theorem LA {S:List (Nat×Nat)}:∀ (es:List Ob),es.all rowOk=true->jG S es es
 |[],_=>by simp only [jG]
 |o::es,h=>by
  simp only [List.all_cons,Bool.and_eq_true] at h
  simp only [jG]
  refine ⟨?_,LA es h.2⟩
  cases o with
  |row e sz xs=>simp only [aR,and_self]
  |box cs=>simp only [aR];exact ic cs h.1
  |map es=>simp [rowOk] at h
  |dead=>simp [rowOk] at h
def invS (B G:List Nat):List (Nat×Nat):=exV B 0++exV G 4
def LB (B:List Nat) (nm m:Nat):List (Nat×Nat):=(List.range B.length).map (fun i=>(i,B[i]?.getD 0))++(List.range m).map (fun i=>(4+i,nm+i))
def vz (tl:List (Nat×Ob)->List AV->List Nat) (run:RunT) (nm:Nat) (h:List (Nat×Ob)) (f:FuncId) (ys:List AV) (B G Z:List Nat):Option Rec:=
 match iL h (stay h Z) (stay h Z) ys with
 |some LC=>
  match xH h (stay h Z) B with
  |some Bx=>match iL [] (dw B G) (invS B G) LC with
   |some xs=>match xI (sK Bx++(kills Z++h)) (dw B G) (invS B G) B with
    |some bs=>match xJ (sK Bx++(kills Z++h)) G with
     |some gs=>match run f xs bs gs with
      |some (vs,h')=>match kR B.length (tl h' vs).eraseDups vs h' with
       |some (r,bs',es)=>match tr [] (iU B nm es.length) (LB B nm es.length) r with
        |some r'=>match xK (iU B nm es.length) (LB B nm es.length) bs' with
         |some cs'=>bif (decide (B.length<=4)&&(decide (G.length<=4)&&(decide ((B++G).Nodup)&&(decide (bs'.length=B.length)&&decide (es.length<=8)))))&&(lU h Z&&B.all (fun b=> !Z.contains b)) then
          some ⟨r',(bS nm es++(eH B cs'++kills G))++(sK Bx++kills Z),bX ys++(B++(G++(Z++cont h B)))⟩ else none
         |none=>none
        |none=>none
       |none=>none
      |none=>none
     |none=>none
    |none=>none
   |none=>none
  |none=>none
 |none=>none
theorem Wy {h h':List (Nat×Ob)} {a c:List (Nat×Ob)} {b:Nat} (e:get h' b=get h b):get (a++(c++h')) b=get (a++(c++h)) b:=by
 simp only [get_append,e]
theorem Ah {P:Program} {tl:List (Nat×Ob)->List AV->List Nat} {run:RunT} (hrun:fK P run) {nm:Nat} {h:List (Nat×Ob)} {f:FuncId} {ys:List AV} {B G Z:List Nat} {r:Rec} (e:vz tl run nm h f ys B G Z=some r):iR P nm f ys h r:=by
 simp only [vz] at e
 split at e
 ·rename_i LC hy
  split at e
  ·rename_i Bx hb
   split at e
   ·rename_i xs hx
    split at e
    ·rename_i bs hbs
     split at e
     ·rename_i gs hgs
      split at e
      ·rename_i vs h1 hr
       split at e
       ·rename_i r0 bs' es hF
        split at e
        ·rename_i r' hr'
         split at e
         ·rename_i cs' hcs
          obtain ⟨t,res,hv,hrun'⟩:=hrun _ _ _ _ _ _ hr
          obtain ⟨sN,hl,hes⟩:=xA hv hF
          have hFn:=hrun' _ _ _ sN
          generalize hd:((decide (B.length<=4)&&(decide (G.length<=4)&&(decide ((B++G).Nodup)&&(decide (bs'.length=B.length)&&decide (es.length<=8)))))&&(lU h Z&&B.all (fun b=> !Z.contains b)))=q at e
          cases q with
          |false=>cases e
          |true=>
           simp only [cond_true,Option.some.injEq] at e
           subst e
           obtain ⟨hd1,Wz⟩:=(Bool.and_eq_true _ _).mp hd
           obtain ⟨hd2,hd3⟩:=(Bool.and_eq_true _ _).mp Wz
           have hC:=hFn.sG (nm:=nm) (h:=sK Bx++(kills Z++h)) B G r' cs' es (lX _ _ hx) (Lu _ _ hbs) (Lv _ _ hgs) hd1 (Lx _ _ hcs) (LA es hes) (vo _ _ hr')
           intro h' hh Q hQ
           have hbz:∀ b ∈ B,b ∉ Z:=fun b hb hz=>by
            have:=List.all_eq_true.1 hd3 b hb
            simp [hz] at this
           refine Wv Z Bx (fun b hbz=> ?_) (fun p hp=> ?_) (vw _ _ (fun b hb=>hh b (by simp [hb])) (lX _ _ hy)) ?_
           ·obtain ⟨e1,sz,Ed,hx1⟩:=zU _ hd2 b hbz
            exact ⟨e1,sz,Ed,by rw [hh b (by simp [hbz])];exact hx1⟩
           ·obtain ⟨h2,cs,h3,h4⟩:=Ls _ _ hb p hp
            refine ⟨hbz _ h2,cs,by rw [hh p.1 (by simp [h2])];exact h3,vw _ _ (fun b hb=>hh b ?_) h4⟩
            have:b ∈ cont h B:=by
             simp only [cont,List.mem_flatMap]
             exact ⟨p.1,h2,by rw [h3];exact hb⟩
            simp [this]
           ·refine hC _ (fun b hb=>Wy (hh b ?_)) Q ?_
            ·rcases List.mem_append.1 hb with hb|hb<;>simp [hb]
            ·simpa only [List.append_assoc] using hQ
         ·cases e
        ·cases e
       ·cases e
      ·cases e
     ·cases e
    ·cases e
   ·cases e
  ·cases e
 ·cases e
def mapA (f:AV->Option AV):List AV->Option (List AV)
 |[]=>some []
 |c::cs=>match f c with
  |some d=>match mapA f cs with
   |some ds=>some (d::ds)
   |none=>none
  |none=>none
def gQ (h:List (Nat×Ob)):Nat->AV->Option AV
 |0,x=>tr h [] [] x
 |k+1,.ptr b j=>match get h b with
  |some (.box cs)=>match mapA (gQ h k) cs with
   |some ds=>bif bf ds then some (.bB ds j) else none
   |none=>none
  |_=>none
 |k+1,.fn f cs=>match mapA (gQ h k) cs with
  |some ds=>bif Nat.blt f 2000000 then some (.fn f ds) else none
  |none=>none
 |_+1,x=>tr h [] [] x
def nR (h:List (Nat×Ob)):Nat->AV->AV->Prop
 |0,x,y=>rv h [] [] x y
 |k+1,x,y=>rv h [] [] x y\/(∃ b j cs ds,y= .ptr b j/\x= .bB ds j/\get h b=some (.box cs)/\bf ds=true/\ds.length=cs.length/\∀ (i:Nat) d c,ds[i]? =some d->cs[i]? =some c->nR h k d c)\/
  ∃ f cs ds,y= .fn f cs/\x= .fn f ds/\f<2000000/\ds.length=cs.length/\∀ (i:Nat) d c,ds[i]? =some d->cs[i]? =some c->nR h k d c
theorem LD {h:List (Nat×Ob)} {x y:AV} (e:tr h [] [] y=some x):rv h [] [] x y:=vo (S:=[]) (inv:=[]) _ _ e
theorem Ai {f:AV->Option AV} {R:AV->AV->Prop} (hf:∀ y x,f y=some x->R x y):∀ (ys xs:List AV),mapA f ys=some xs->xs.length=ys.length/\∀ (i:Nat) x y,xs[i]? =some x->ys[i]? =some y->R x y
 |[],xs,e=>by simp only [mapA,Option.some.injEq] at e;subst e;exact ⟨rfl,fun i d c hd=>by simp at hd⟩
 |y::ys,xs,e=>by
  simp only [mapA] at e
  split at e
  ·rename_i x hx
   split at e
   ·rename_i xs' hxs
    cases e
    obtain ⟨h1,h2⟩:=Ai hf ys xs' hxs
    refine ⟨by simp [h1],fun i d c hd hc=> ?_⟩
    cases i with
    |zero=>simp at hd hc;subst hd hc;exact hf _ _ hx
    |succ i=>exact h2 i d c (by simpa using hd) (by simpa using hc)
   ·cases e
  ·cases e
theorem Ee {h:List (Nat×Ob)}:∀ (k:Nat) (y x:AV),gQ h k y=some x->nR h k x y
 |0,y,x,e=>LD (by simpa only [gQ] using e)
 |k+1,y,x,e=>by
  cases y
  case ptr b j=>
   simp only [gQ] at e
   split at e
   ·rename_i cs hg
    split at e
    ·rename_i ds hd
     cases hp:bf ds with
     |false=>rw [hp] at e;cases e
     |true=>
      rw [hp] at e
      cases e
      obtain ⟨h1,h2⟩:=Ai (Ee k) cs ds hd
      exact .inr (.inl ⟨b,j,cs,ds,rfl,rfl,hg,hp,h1,h2⟩)
    ·cases e
   ·cases e
  case fn f cs=>
   simp only [gQ] at e
   split at e
   ·rename_i ds hd
    cases hp:Nat.blt f 2000000 with
    |false=>rw [hp] at e;cases e
    |true=>
     rw [hp] at e
     cases e
     obtain ⟨h1,h2⟩:=Ai (Ee k) cs ds hd
     exact .inr (.inr ⟨f,cs,ds,rfl,rfl,by simpa [Nat.blt_eq] using hp,h1,h2⟩)
   ·cases e
  all_goals exact .inl (LD (by simpa only [gQ] using e))
theorem WA {h:List (Nat×Ob)} {B:List Nat} {b k:Nat} {cs:List AV} (hb:b ∈ B) (hg:get h b=some (.box cs)) (hk:k ∈ bX cs):k ∈ cont h B:=by
 simp only [cont,List.mem_flatMap]
 exact ⟨b,hb,by rw [hg];exact hk⟩
theorem Aj:∀ {ys:List AV} {y:AV} {b:Nat},y ∈ ys->b ∈ deep y->b ∈ bX ys
 |c::ys,y,b,hy,hb=>by
  simp only [bX,List.mem_append]
  rcases List.mem_cons.1 hy with rfl|hy
  ·exact .inl hb
  ·exact .inr (Aj hy hb)
def lY (h:List (Nat×Ob)):Nat->List Nat->List Nat
 |0,L=>L
 |k+1,L=>L++lY h k (cont h L)
theorem LF {h:List (Nat×Ob)}:∀ (k:Nat) (L:List Nat) (b:Nat),b ∈ lY h k L->b ∈ lY h (k+1) L
 |0,L,b,hb=>by simp only [lY,List.mem_append] at hb ⊢;exact .inl hb
 |k+1,L,b,hb=>by
  simp only [lY,List.mem_append] at hb ⊢
  rcases hb with hb|hb
  ·exact .inl hb
  ·exact .inr (by have:=LF k _ b hb;simpa only [lY,List.mem_append] using this)
theorem LG {h:List (Nat×Ob)}:∀ (k:Nat) (L:List Nat) (b:Nat),b ∈ L->b ∈ lY h k L
 |0,L,b,hb=>hb
 |k+1,L,b,hb=>by simp only [lY,List.mem_append];exact .inl hb
theorem nR.cg {h h':List (Nat×Ob)}:∀ (k:Nat) (L:List Nat) (x y:AV),nR h k x y->(∀ b ∈ deep y,b ∈ L)->(∀ b ∈ lY h k L,get h' b=get h b)->nR h' k x y
 |0,L,x,y,hx,hL,hh=>Dw _ _ (fun b hb=>hh b (hL b hb)) hx
 |k+1,L,x,y,hx,hL,hh=>by
  rcases hx with hx|⟨b,j,cs,ds,rfl,rfl,hg,hp,hl,hc⟩|⟨f,cs,ds,rfl,rfl,hf,hl,hc⟩
  ·exact .inl (Dw _ _ (fun b hb=>hh b (LG _ _ _ (hL b hb))) hx)
  ·have hbL:=hL b (by simp [deep])
   refine .inr (.inl ⟨b,j,cs,ds,rfl,rfl,by rw [hh b (LG _ _ _ hbL)];exact hg,hp,hl,fun i d c hd hcc=> ?_⟩)
   exact nR.cg k (cont h L) d c (hc i d c hd hcc) (fun m hm=>WA hbL hg (Aj (List.mem_of_getElem? hcc) hm)) (fun m hm=>hh m (by simp only [lY,List.mem_append];exact .inr hm))
  ·refine .inr (.inr ⟨f,cs,ds,rfl,rfl,hf,hl,fun i d c hd hcc=> ?_⟩)
   exact nR.cg k L d c (hc i d c hd hcc) (fun m hm=>hL m (by simp only [deep];exact Aj (List.mem_of_getElem? hcc) hm)) (fun m hm=>hh m (LF _ _ _ hm))
def xL (C:Ctx) (w:World) (g:Nat):Prop:=(C.ok g\/C.new g\/C.ext g)/\g<w.heap.size
section
variable {C:Ctx} {ρ:Nat->Loc} {U:Nat->Prop} {h:List (Nat×Ob)} {w:World}
theorem LH {g:Nat} (hg:ay C (bK ρ [] []) w g):xL C w g:=⟨hg.1.imp id .inl,hg.2.1⟩
theorem VR.op (hr:HR C ρ U h w):∀ (k:Nat) {x y:AV} {u:Value},VR w (ay C ρ w) ρ U y u->nR h k x y->VR w (xL C w) (bK ρ [] []) (iK [] []) x u
 |0,x,y,u,hv,hx=>(jC hr hv x hx).mono (fun _=>LH) (fun _ _=>rfl) (fun _ h=>h) (fun _ _=> .inl rfl)
 |k+1,x,y,u,hv,hx=>by
  rcases hx with hx|⟨b,j,cs,ds,rfl,rfl,hg,hp,hl,hc⟩|⟨f,cs,ds,rfl,rfl,hf,hl,hc⟩
  ·exact (jC hr hv x hx).mono (fun _=>LH) (fun _ _=>rfl) (fun _ h=>h) (fun _ _=> .inl rfl)
  ·obtain ⟨_,a,rfl,had⟩:=hv.mG
   obtain ⟨hub,g,o,n,e,cells,h1,h2,h3,h4,h5⟩:=hr.hp b _ hg
   rw [had g o n h1]
   have hown:=hr.bN g ⟨b,o,n,h1⟩
   have key:∀ (i:Nat) (c:AV),ds[i]? =some c->∃ u,cells[o+i]? =some u/\VP w (xL C w) c u:=fun i c hi=>by
    have hlt:i<cs.length:=by rw [<-hl];exact (List.getElem?_eq_some_iff.1 hi).1
    have hy:=List.getElem?_eq_getElem hlt
    obtain ⟨u,hu,huv⟩:=h5 i _ hy
    exact ⟨u,hu,Dt (VR.op hr k huv (hc i c _ hi hy)) (wF _ hp i c hi)⟩
   refine .p (.bB g o (fun i=>(cells[o+i]?).getD undef) ⟨?_,hown.2⟩ (fun i c hi=> ?_) (fun i c hi=> ?_))
   ·rcases hown.1 with h|h
    ·exact .inr (.inr h)
    ·exact .inr (.inl h)
   ·obtain ⟨u,hu,_⟩:=key i c hi
    rw [uI h2,hu];rfl
   ·obtain ⟨u,hu,hv⟩:=key i c hi
    simp only [hu,Option.getD_some];exact hv
  ·obtain ⟨vs,rfl,h1,h2⟩:=hv.y8 hf
   refine .fn hf (hl.trans h1) fun i d u hd hu=> ?_
   have hlt:i<cs.length:=by rw [<-hl];exact (List.getElem?_eq_some_iff.1 hd).1
   have hcc:=List.getElem?_eq_getElem hlt
   exact VR.op hr k (h2 i _ u hcc hu) (hc i d _ hd hcc)
end
theorem Fn.vB {P:Program} {f:FuncId} {xs ys:List AV} {r:AV} {es:List Ob} {h:List (Nat×Ob)} (hF:Fn P f xs [] r [] es) (nm:Nat) (ha:mapA (gQ h 4) ys=some xs) (hes:es.all rowOk=true) (hna:∀ o ∈ es,qx o) (hm:es.length<=8)
 (hx:bZ es.length r=true) (hr0:na r=true):iR P nm f ys h ⟨sh nm r,bS nm es,lY h 4 (bX ys)⟩:=by
 intro h' hh' Q hQ
 refine ⟨hF.1,fun C ρ U w vals hr hfr hvl=> ?_⟩
 obtain ⟨hl,ha'⟩:=Ai (Ee 4) _ _ ha
 have hd:∀ g,¬ gX (bK ρ [] []) g:=fun g ⟨k,o,n,hk⟩=>by simp [bK,get] at hk
 let C':Ctx:=⟨w,xL C w,(fun _=>False),(fun _=>none),0,(fun g hg=>hg.elim),(fun i l hl=>by cases hl),(fun _=>False),(fun _ h=>h.elim)⟩
 have hok:∀ g,xL C w g->ay C' (bK ρ [] []) w g:=fun g hg=>⟨.inl hg,hg.2,hd g⟩
 have hrc:HR C' (bK ρ [] []) (iK [] []) (dM 0 []) w:=by
  refine ⟨fun i o hi=>by simp [dM,bS,get] at hi,fun i _=>by simp [bK,get],fun i i' g o n o' n' h1 _=>absurd ⟨i,o,n,h1⟩ (hd g),rfl,rfl,rfl,Nat.le_refl _,
   fun g _ _ _=>rfl,fun g hg=>⟨hg.2,fun h=>h.elim,fun h=>h⟩,fun g ho=>absurd ho (hd g),fun i l hi=>by cases hi⟩
 have Dx:VL w (ay C' (bK ρ [] []) w) (bK ρ [] []) (iK [] []) xs vals:=by
  refine ⟨by rw [hl];exact hvl.1,fun i x u hi hu=> ?_⟩
  have hlt:i<ys.length:=by rw [<-hl];exact (List.getElem?_eq_some_iff.1 hi).1
  have hy:=List.getElem?_eq_getElem hlt
  have hxy:=nR.cg (h':=h') 4 (bX ys) _ _ (ha' i x _ hi hy) (fun b hb=>Aj (List.mem_of_getElem? hy) hb) hh'
  exact (VR.op hr 4 (hvl.2 i _ u hy hu) hxy).mono hok (fun _ _=>rfl) (fun _ h=>h) (fun _ _=> .inl rfl)
 refine (hF.2 C' _ _ w vals hrc (fun b hb=>by simp [iK] at hb) Dx).mono fun e w' hpost=> ?_
 obtain ⟨v,ρ1,U1,rfl,hr1,hv1⟩:=hpost
 obtain ⟨hR,hkeep⟩:=back (C':=C') (B:=[]) (nm:=nm) hr rfl (fun g=>by simp [C']) (fun i=>by simp [C']) hr1 (fun b hb=>by simp at hb) rfl (by simp) hes hm (cs:=[]) rfl (fun i cs h=>by simp at h) hfr (fun _ h=>h) (.inr ⟨rfl,hna⟩)
 refine ⟨v,sh nm r,_,fA ρ ρ1 nm es.length,uW U nm es.length,rfl,hR,?_,hkeep,fun b hb=> ?_,?_⟩
 ·refine VR.Ky (fun i hi=> ?_) (fun i hi=> .inr ⟨by omega,by omega⟩) hv1 hx hr0
  unfold fA
  rw [if_pos ⟨by omega,by omega⟩]
  congr 2;omega
 ·rcases hb with hb|hb
  ·exact .inl hb
  ·exact .inr ⟨hb.1,by omega⟩
 ·simpa [eH] using hQ
def vB (run:RunT) (nm:Nat) (h:List (Nat×Ob)) (f:FuncId) (ys:List AV):Option Rec:=
 match mapA (gQ h 4) ys with
 |some xs=>match run f xs [] [] with
  |some (vs,h')=>match kR 0 (qF 0 h' vs).eraseDups vs h' with
   |some (r,_,es)=>bif (decide (es.length<=8)&&bZ es.length r)&&(na r&&es.all qG) then some ⟨sh nm r,bS nm es,lY h 4 (bX ys)⟩ else none
   |none=>none
  |none=>none
 |none=>none
theorem WB {P:Program} {run:RunT} (hrun:fK P run) {nm:Nat} {h:List (Nat×Ob)} {f:FuncId} {ys:List AV} {r:Rec} (e:vB run nm h f ys=some r):iR P nm f ys h r:=by
 simp only [vB] at e
 split at e
 ·rename_i xs hx
  split at e
  ·rename_i vs h1 hr
   split at e
   ·rename_i r0 bs es hF
    obtain ⟨t,res,hv,hrun'⟩:=hrun _ _ _ _ _ _ hr
    obtain ⟨sN,hl,hes⟩:=xA hv hF
    have hb0:bs=[]:=List.length_eq_zero_iff.1 hl
    subst hb0
    have hFn:=(hrun' _ _ _ sN).xC
    cases hc:((decide (es.length<=8)&&bZ es.length r0)&&(na r0&&es.all qG)) with
    |false=>rw [hc] at e;cases e
    |true=>
     rw [hc] at e
     simp only [cond_true,Option.some.injEq] at e
     subst e
     simp only [Bool.and_eq_true,decide_eq_true_eq,List.all_eq_true] at hc
     exact hFn.vB nm hx hes (fun o ho=>Lj (hc.2.2 o ho)) hc.1.1 hc.1.2 hc.2.1
   ·cases e
  ·cases e
 ·cases e
def lZ (run:RunT) (nm:Nat) (h:List (Nat×Ob)) (f:FuncId) (ys:List AV):Option Rec:=
 bif bf ys then (match run f ys [] [] with
  |some (vs,h')=>match kR 0 (qF 0 h' vs).eraseDups vs h' with
   |some (r,_,es)=>bif decide (es.length<=8)&&bZ es.length r then some ⟨sh nm r,bS nm es,[]⟩ else none
   |none=>none
  |none=>none)
 else match Wu h ys with
 |[]=>match iL h [] [] ys with
  |some xs=>match run f xs [] [] with
   |some (vs,h')=>match kR 0 (qF 0 h' vs).eraseDups vs h' with
    |some (r,_,es)=>bif decide (es.length<=8)&&bZ es.length r then
     (bif na r&&es.all qG then some ⟨sh nm r,bS nm es,bX ys⟩
      else bif lU h (bX ys)&&bf xs then some ⟨sh nm r,bS nm es++kills (bX ys),bX ys⟩ else none)
     else none
    |none=>none
   |none=>match (bif (kS ys).isEmpty then none else vz (qF 0) run nm h f ys [] (kS ys).eraseDups ((xD h (bX ys)).filter fun b=> !(kS ys).contains b)) with
    |some r=>some r
    |none=>vz (qF 0) run nm h f ys [] (xD h (bX ys)).eraseDups []
  |none=>none
 |B=>match (bif (kS ys).isEmpty then none else vB run nm h f ys) with
  |some r=>some r
  |none=>match vz (qF B.length) run nm h f ys B [] (xD h (bX ys++cont h B)).eraseDups with
  |some r=>some r
  |none=>bif (kS ys).isEmpty then none else vz (qF B.length) run nm h f ys B (kS ys).eraseDups ((xD h (bX ys++cont h B)).eraseDups.filter fun b=> !(kS ys).contains b)
theorem mZ {P:Program} {run:RunT} (hrun:fK P run) {nm:Nat} {h:List (Nat×Ob)} {f:FuncId} {ys:List AV} {r:Rec} (e:lZ run nm h f ys=some r):iR P nm f ys h r:=by
 have hfn:∀ {xs:List AV} {vs:List AV} {h':List (Nat×Ob)} {r0:AV} {bs:List (List AV)} {es:List Ob} {O:List Nat},run f xs [] []=some (vs,h')->kR 0 O vs h'=some (r0,bs,es)->Fn P f xs [] r0 [] es/\es.all rowOk=true:=by
  intro xs vs h' r0 bs es O hr hF
  obtain ⟨t,res,hv,hrun'⟩:=hrun _ _ _ _ _ _ hr
  obtain ⟨sN,hl,hes⟩:=xA hv hF
  have hb0:bs=[]:=List.length_eq_zero_iff.1 hl
  subst hb0
  exact ⟨(hrun' _ _ _ sN).xC,hes⟩
 unfold lZ at e
 cases hp:bf ys with
 |true=>
  rw [hp] at e
  simp only [cond_true] at e
  split at e
  ·rename_i vs h' hr
   split at e
   ·rename_i r0 bs es hF
    obtain ⟨hFn,hes⟩:=hfn hr hF
    cases hc:(decide (es.length<=8)&&bZ es.length r0) with
    |false=>rw [hc] at e;cases e
    |true=>
     rw [hc] at e
     simp only [cond_true,Option.some.injEq] at e
     subst e
     simp only [Bool.and_eq_true,decide_eq_true_eq] at hc
     exact hFn.DK hp hes hc.1 hc.2
   ·cases e
  ·cases e
 |false=>
  rw [hp] at e
  simp only [cond_false] at e
  split at e
  ·split at e
   ·rename_i xs hx
    split at e
    ·rename_i vs h' hr
     split at e
     ·rename_i r0 bs es hF
      obtain ⟨hFn,hes⟩:=hfn hr hF
      have ha:au h [] [] xs ys:=lX ys xs hx
      cases hc:(decide (es.length<=8)&&bZ es.length r0) with
      |false=>rw [hc] at e;cases e
      |true=>
       rw [hc] at e
       simp only [cond_true] at e
       simp only [Bool.and_eq_true,decide_eq_true_eq] at hc
       cases hn:(na r0&&es.all qG) with
       |true=>
        rw [hn] at e
        simp only [cond_true,Option.some.injEq] at e
        subst e
        simp only [Bool.and_eq_true,List.all_eq_true] at hn
        exact hFn.KG nm ha hes (fun o ho=>Lj (hn.2 o ho)) hc.1 hc.2 hn.1
       |false=>
        rw [hn] at e
        simp only [cond_false] at e
        cases hz:(lU h (bX ys)&&bf xs) with
        |false=>rw [hz] at e;cases e
        |true=>
         rw [hz] at e
         simp only [cond_true,Option.some.injEq] at e
         subst e
         simp only [Bool.and_eq_true] at hz
         intro h2 hh Q hQ
         refine KJ (bX ys) (fun b hb=> ?_) (u6 (h:=h) hh xs ys (fun b hb=>hb) ha) ?_
         ·obtain ⟨e1,sz,Ed,hx1⟩:=zU _ hz.1 b hb
          exact ⟨e1,sz,Ed,by rw [hh b hb];exact hx1⟩
         ·exact (hFn.DK (h:=kills (bX ys)++h2) hz.2 hes hc.1 hc.2) _ (fun _ _=>rfl) Q (by simpa only [List.append_assoc] using hQ)
     ·cases e
    ·split at e
     ·rename_i r1 hr1
      cases e
      generalize (kS ys).isEmpty=q at hr1
      cases q with
      |true=>cases hr1
      |false=>rw [cond_false] at hr1;exact Ah hrun hr1
     ·exact Ah hrun e
   ·cases e
  ·split at e
   ·rename_i r1 hr1
    cases e
    generalize (kS ys).isEmpty=q at hr1
    cases q with
    |true=>cases hr1
    |false=>exact WB hrun hr1
   split at e
   ·rename_i r1 hr1
    cases e
    exact Ah hrun hr1
   ·generalize (kS ys).isEmpty=q at e
    cases q with
    |true=>cases e
    |false=>exact Ah hrun e
end Go.Eng
