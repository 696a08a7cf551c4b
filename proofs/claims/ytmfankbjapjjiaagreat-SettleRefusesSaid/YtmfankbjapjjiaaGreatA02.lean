/-
  Part of a proof: lemmas and definitions of this work.
  No condition.
-/
import Derived.Test.YtmfankbjapjjiaaGreatA01
import Derived.Test.YtmfankbjapjjiaaGreatA00
import Derived.WalkSpells
import Derived.Orders
set_option linter.all false
set_option maxRecDepth 100000
set_option maxHeartbeats 8000000
namespace Go.Eng
open Go
section
variable {P:Program} {C:Ctx} {ρ:Nat->Loc} {U:Nat->Prop} {h:List (Nat×Ob)} {w:World} {nm:Nat} {t:List (Nat×AV)} {a:Act} {o:Oper} {e:E}
theorem afn {so:gm} (hs:strip P o=some so) (hr:HR C ρ U h w) (ht:Tm C ρ U w t a) (hn:¬ U nm) (he:aM nm t h so=some e) (hp:e.pre):
 Run C ρ U h w nm ((execOp a.eval o).run P w) e:=by
 unfold strip at hs
 split at hs
 ·rename_i x hop;cases hs;exact X9 hr ht (.inl hop) he
 ·rename_i x hop;cases hs;exact X9 hr ht (.inr hop) he
 ·rename_i c x y hop;cases hs;exact aeu hr ht hop he
 ·rename_i el hop
  split at hs
  ·rename_i zs hz;cases hs;exact aeO hr hn hz hop he
  ·cases hs
 ·rename_i el x hop;cases hs;exact aeP hr ht hn hop he
 ·rename_i ty parts hop
  split at hs
  ·rename_i fs hu
   split at hs
   ·rename_i zs hz
    split at hs
    ·rename_i ps hps
     split at hs
     ·rename_i hall
      cases hs
      exact aeT hr ht hu hz hps (fun f hf=>List.all_eq_true.1 hall f hf) hop he
     ·cases hs
    ·cases hs
   ·cases hs
  ·rename_i n el hu
   split at hs
   ·rename_i zs hz
    split at hs
    ·rename_i sz hsz
     cases hs
     exact aeW hr ht hu hz hsz hop he
    ·cases hs
   ·cases hs
  ·cases hs
 ·rename_i ty len parts hop
  split at hs
  ·rename_i el hu
   split at hs
   ·rename_i zs hz
    split at hs
    ·rename_i sz hsz
     split at hs
     ·rename_i hc
      cases hs
      exact afb hr ht hn hu hz hsz hc.1 hc.2.1 hc.2.2.1 hc.2.2.2 hop he
     ·cases hs
    ·cases hs
   ·cases hs
  ·cases hs
 ·rename_i ty x hop
  split at hs
  ·rename_i ag ha
   split at hs
   ·rename_i sz hsz;cases hs;exact aeG hr ht ha hsz hop he hp
   ·cases hs
  ·cases hs
 ·rename_i ty x y hop
  split at hs
  ·rename_i sz hsz;cases hs;exact aeQ hr ht hsz hop he hp
  ·cases hs
 ·rename_i x hop;cases hs;exact aeJ hr ht hop he
 ·rename_i op ty x y ty' hop
  split at hs
  ·rename_i fs hu
   split at hs
   ·rename_i ks hk
    split at hs
    ·rename_i hc
     split at hs
     ·cases hs;exact Yp (neg:=false) hr ht hu hk hc.1 hc.2 hop he
     ·cases hs;exact Yp (neg:=true) hr ht hu hk hc.1 hc.2 hop he
     ·cases hs
    ·cases hs
   ·cases hs;simp [aM] at he
  ·cases hs;exact Yb hr ht hop he hp
  ·cases hs;exact Yb hr ht hop he hp
  ·rename_i hu
   split at hs
   ·cases hs;exact Yc (neg:=false) hr ht hu hop he
   ·cases hs;exact Yc (neg:=true) hr ht hu hop he
   ·cases hs
  ·split at hs
   ·cases hs;simp [aM] at he
   ·cases hs;simp [aM] at he
   ·cases hs
  ·cases hs
 ·rename_i op ty x hop;cases hs;exact aev hr ht hop he
 ·rename_i src dst x hop
  split at hs
  ·rename_i k0 k h1 h2;cases hs;exact aeC hr ht h1 h2 hop he
  ·split at hs
   ·cases hs;simp [aM] at he
   ·cases hs
  ·rename_i el h1 h2
   split at hs
   ·rename_i h3;cases hs;exact afh hr ht h1 h3 h2 hop he hp
   ·cases hs
  ·cases hs
 ·rename_i f first caps hop
  split at hs
  ·rename_i hf;cases hs;exact aeD hr ht hf hop he
  ·split at hs
   ·rename_i hf;cases hs;exact aeE hr ht hf hop he
   ·cases hs
 ·rename_i ty hop;cases hs;exact ae0 hr hn hop he
 ·rename_i ty m k hop
  split at hs
  ·rename_i kt et hu
   split at hs
   ·rename_i kk z hk hz
    cases hs
    refine ae2 hr ht hu hk ?_ hop he
    unfold tV at hz
    split at hz
    ·rename_i i hi;exact ⟨i,hi,hz⟩
    ·cases hz
   ·cases hs
  ·cases hs
 ·rename_i ty m k hop
  split at hs
  ·rename_i kt et hu
   split at hs
   ·rename_i kk z hk hz
    cases hs
    refine ae3 hr ht hu hk ?_ hop he
    unfold tV at hz
    split at hz
    ·rename_i i hi;exact ⟨i,hi,hz⟩
    ·cases hz
   ·cases hs
  ·cases hs
 ·rename_i ty m k x hop
  split at hs
  ·rename_i kt et hu
   split at hs
   ·rename_i kk hk;cases hs;exact ae4 hr ht hu hk hop he
   ·cases hs
  ·cases hs
 ·rename_i ty m k x hop
  split at hs
  ·rename_i kt et hu
   split at hs
   ·rename_i kk hk;cases hs;exact ae5 hr ht hu hk hop he
   ·cases hs
  ·cases hs
 ·rename_i ty l c hop
  split at hs
  ·rename_i el hu
   split at hs
   ·rename_i zs sz dN hz hsz hb
    split at hs
    ·rename_i hc;cases hs;exact aeZ hr ht hn ⟨hu,hz,hsz,hb,hc.1,hc.2.1⟩ hc.2.2 hop he hp
    ·cases hs
   ·cases hs
  ·cases hs
 ·rename_i ty x lo hi mx hop
  split at hs
  ·rename_i el hu
   split at hs
   ·rename_i sz hsz;cases hs;exact afd hr ht hn hu hsz hop he hp
   ·cases hs
  ·rename_i hu
   split at hs
   ·cases hs;exact afe hr ht hu hop he hp
   ·cases hs
  ·split at hs
   ·split at hs
    ·cases hs;cases he
    ·cases hs
   ·cases hs
  ·cases hs
 ·rename_i ty x f hop
  split at hs
  ·rename_i fs hu
   split at hs
   ·rename_i fd hf
    split at hs
    ·rename_i sz hsz
     split at hs
     ·cases hs
     ·rename_i hne;cases hs;exact aeH hr ht hu hf hsz hne hop he hp
    ·cases hs
   ·cases hs
  ·cases hs
 ·rename_i ty x f hop
  split at hs
  ·rename_i fs hu
   split at hs
   ·rename_i fd hf
    split at hs
    ·rename_i sz ag hsz ha;cases hs;exact aeI hr ht hu hf hsz ha hop he
    ·cases hs
   ·cases hs
  ·cases hs
 ·rename_i ty x i hop
  split at hs
  ·rename_i el hu
   split at hs
   ·rename_i sz hsz;cases hs;exact aeK hr ht hu hsz hop he hp
   ·cases hs
  ·rename_i n el hu
   split at hs
   ·cases hs;simp [aM] at he
   ·cases hs
  ·cases hs
 ·rename_i ty x i hop
  split at hs
  ·rename_i n el hu
   split at hs
   ·rename_i sz ag hsz ha;cases hs;exact afg hr ht hu hsz ha hop he hp
   ·cases hs
  ·rename_i hu;cases hs;exact aff hr ht hu hop he hp
  ·cases hs
 ·rename_i x i hop;cases hs;exact aew hr ht hop he
 ·cases hs;simp [aM] at he
 ·cases hs;simp [aM] at he
 ·rename_i c hop
  split at hs
  ·cases hs;simp [aM] at he
  ·rename_i hc
   split at hs
   ·rename_i ty x h2 h3
    split at hs
    ·rename_i el hu;cases hs;exact aeM hr ht hu hc h2 h3 hop he
    ·rename_i hu;cases hs;exact aeL hr ht hu hc h2 h3 hop he
    ·cases hs
   ·cases hs
  ·rename_i hc
   split at hs
   ·rename_i ty x h2 h3
    split at hs
    ·rename_i el hu;cases hs;exact afj hr ht hu hc h2 h3 hop he
    ·cases hs
   ·cases hs
  ·rename_i hc
   split at hs
   ·rename_i ty ty' s x h2 h3
    have h2':c.argTypes= #[ty,ty']:=Array.toList_inj.1 (by simpa using h2)
    have h3':c.args= #[s,x]:=Array.toList_inj.1 (by simpa using h3)
    split at hs
    ·rename_i hty
     subst hty
     split at hs
     ·rename_i el hu
      split at hs
      ·rename_i zs sz dN hz hsz hb
       split at hs
       ·rename_i hcc;cases hs;exact aeR hr ht hn ⟨hu,hz,hsz,hb,hcc.1,hcc.2⟩ hc h2' h3' hop he hp
       ·cases hs
      ·cases hs
     ·cases hs
    ·split at hs
     ·rename_i el q hu hti
      split at hs
      ·rename_i zs sz dN hz hsz hb
       split at hs
       ·rename_i hcc;cases hs;exact afk hr ht hn ⟨hu,hz,hsz,hb,hcc.1,hcc.2.1⟩ hcc.2.2 hti hc h2' h3' hop he hp
       ·cases hs
      ·cases hs
     ·cases hs
   ·cases hs
  ·rename_i hc
   split at hs
   ·rename_i ty x h2 h3
    split at hs
    ·rename_i el hu
     split at hs
     ·rename_i zs sz hz hsz
      split at hs
      ·rename_i hcc;cases hs;exact afl hr ht hu hz hsz hcc.1 hcc.2.2 hc h2 h3 hop he hp
      ·cases hs
     ·cases hs
    ·cases hs
   ·cases hs
  ·rename_i hc;cases hs;exact Yz (mx:=true) hr ht hc hop he
  ·rename_i hc;cases hs;exact Yz (mx:=false) hr ht hc hop he
  ·rename_i hc
   split at hs
   ·rename_i ty d x h2 h3
    have h3':c.args= #[d,x]:=Array.toList_inj.1 (by simpa using h3)
    split at hs
    ·rename_i el hu
     split at hs
     ·rename_i sz hsz
      split at hs
      ·rename_i hpos;cases hs;exact afm hr ht hu hsz hpos hc h2 h3' hop he hp
      ·cases hs;simp [aM] at he
     ·cases hs;simp [aM] at he
    ·cases hs;simp [aM] at he
   ·cases hs;simp [aM] at he
  ·cases hs
 ·cases hs
end
end Go.Eng
namespace Go.Eng
open Go
def tY (nt:Nat):List aH->Bool
 |[]=>true
 |o::l=>(match o.dst with
  |some d=>decide (d<nt)
  |none=>true)&&tY nt l
def iV (nt:Nat):eG->Bool
 | .region ops _=>tY nt ops
 | .seq a b=>iV nt a&&iV nt b
 | .cond _ x y=>iV nt x&&iV nt y
 | .block _ c=>iV nt c
 | .loop c=>iV nt c
 |_=>true
section
variable {P:Program} {C:Ctx} {ρ:Nat->Loc} {U:Nat->Prop} {h:List (Nat×Ob)} {w:World} {nm:Nat} {t:List (Nat×AV)} {a:Act} {o:Oper}
theorem Tm.put (ht:Tm C ρ U w t a) {dst:Option Nat} {x:AV} {v:Value} (hv:VR w (aP C ρ w) ρ U x v) (hd:∀ d,dst=some d->d<a.tmps.size):Tm C ρ U w (bP t dst x) (a.put dst v):=by
 intro k y hk
 cases dst with
 |none=>exact ht k y hk
 |some d=>
  have hlt:=hd d rfl
  simp only [bP,get] at hk
  by_cases e:d=k
  ·subst e
   rw [if_pos rfl] at hk
   cases hk
   exact ⟨v,by simp [Act.put,hlt],hv⟩
  ·rw [if_neg e] at hk
   obtain ⟨u,h1,h2⟩:=ht k y hk
   exact ⟨u,by simp only [Act.put,Array.getElem?_setIfInBounds];rw [if_neg e];exact h1,h2⟩
theorem EA (a:Act) (dst:Option Nat) (v:Value):(a.put dst v).tmps.size=a.tmps.size:=by
 cases dst<;>simp [Act.put]
theorem put_defers (a:Act) (dst:Option Nat) (v:Value):(a.put dst v).defers=a.defers:=by
 cases dst<;>simp [Act.put]
structure iW (C:Ctx) (ρ:Nat->Loc) (U:Nat->Prop) (t:List (Nat×AV)) (h:List (Nat×Ob)) (a:Act) (w:World):Prop where
 hr:HR C ρ U h w
 tm:Tm C ρ U w t a
 defers:a.defers=[]
 sz:a.tmps.size=C.nt
theorem afo {c:Call} {f:Operand} {g:FuncId} {vs:Array Value} (hc:c.callee= .value f) (hf:a.eval f= .func (.func g) #[] vs) (ho:o.op= .call c) (hE:Enters P g):
 (execOp a.eval o).run P w= .ok (.enter g (c.args.map a.eval++vs)) w:=by
 obtain ⟨fn,h1,h2,h3⟩:=hE
 simp only [execOp,ho,resolve,hc,Deferred.ofValue,hf,Sem.run_bind,Sem.run_pure,Result.andThen_ok,invoke,callFunc,run_program,h1,h2,h3,Bool.false_eq_true,if_false,Array.empty_append]
theorem afp {c:Call} {f:Operand} {g:FuncId} {vs:Array Value} (hc:c.callee= .value f) (hf:a.eval f= .func (.func g) vs #[]) (ho:o.op= .call c) (hE:Enters P g):
 (execOp a.eval o).run P w= .ok (.enter g (vs++c.args.map a.eval)) w:=by
 obtain ⟨fn,h1,h2,h3⟩:=hE
 simp only [execOp,ho,resolve,hc,Deferred.ofValue,hf,Sem.run_bind,Sem.run_pure,Result.andThen_ok,invoke,callFunc,run_program,h1,h2,h3,Bool.false_eq_true,if_false,Array.append_empty]
theorem VL.append {ok:Nat->Prop} {cs ds:List AV} {us vs:Array Value} (h1:VL w ok ρ U cs us) (h2:VL w ok ρ U ds vs):VL w ok ρ U (cs++ds) (us++vs):=by
 refine ⟨by simp [h1.1,h2.1],fun i c u hi hu=> ?_⟩
 rw [List.getElem?_append] at hi
 rw [Array.getElem?_append] at hu
 have:=h1.1
 split at hi
 ·rw [if_pos (by omega)] at hu
  exact h1.2 i c u hi hu
 ·rw [if_neg (by omega)] at hu
  rw [<-this] at hu
  exact h2.2 _ c u hi hu
theorem YA {f:Operand} {args:List Operand} (hs:strip P o=some (.call f args)):∃ c,o.op= .call c/\c.callee= .value f/\c.args.toList=args:=by
 unfold strip at hs
 split at hs<;>(repeat' split at hs)<;>first
  |(cases hs;done)
  |(simp at hs;done)
  |skip
 all_goals (simp only [Option.some.injEq,gm.call.injEq] at hs;obtain ⟨rfl,rfl⟩:=hs;exact ⟨_,by assumption,by assumption,rfl⟩)
theorem afq {neg:Bool} {x:Operand} (hs:strip P o=some (.lS neg x)):∃ t e n c t',o.op= .binOp (if neg then .neq else .eql) t x (.const (.slice none n c)) t'/\P.underlying t=some (.slice e):=by
 unfold strip at hs
 split at hs<;>(repeat' split at hs)<;>first
  |(cases hs;done)
  |(simp at hs;done)
  |skip
 all_goals (simp only [Option.some.injEq,gm.lS.injEq] at hs;obtain ⟨rfl,rfl⟩:=hs;exact ⟨_,_,_,_,_,by assumption,by assumption⟩)
theorem afr {neg:Bool} {x:Operand} {ty e ty':TypeId} {n c:Nat} {b:Option Addr} {n' c':Nat} (hty:P.underlying ty=some (.slice e)) (ho:o.op= .binOp (if neg then .neq else .eql) ty x (.const (.slice none n c)) ty')
 (hx:a.eval x= .slice b n' c'):(execOp a.eval o).run P w= .ok (.value (.bool (if neg then !b.isNone else b.isNone))) w:=by
 have e1:a.eval (.const (.slice none n c))= .slice none n c:=rfl
 cases neg
 ·simp only [Bool.false_eq_true,if_false] at ho ⊢
  have e2:eqGuard .eql ty x (.const (.slice none n c)) (.slice b n' c') (.slice none n c)=pure ():=rfl
  simp only [execOp,ho,hx,e1,e2,Sem.run_bind,Sem.run_pure,Result.andThen_ok,Lib.run_eql_slice_nil w ty e b n' c' n c hty]
 ·simp only [if_true] at ho ⊢
  have e2:eqGuard .neq ty x (.const (.slice none n c)) (.slice b n' c') (.slice none n c)=pure ():=rfl
  simp only [execOp,ho,hx,e1,e2,Sem.run_bind,Sem.run_pure,Result.andThen_ok,run_neq_slice_nil_any w ty e b n' c' n c hty]
theorem YB {so:gm} {gd:Option (Nat×Bool)} {af:List Nat} {Q:List (Nat×AV)->List (Nat×Ob)->Prop} {K:Exit->Act->World->Prop} {next:Act->World->Prop} (hs:strip P o=some so) (hS:iW C ρ U t h a w) (hfr:∀ b,U b->¬ (nm<=b/\b<nm+8)) (hd:∀ d,o.dst=some d->d<C.nt)
 (hw:jJ P nm ⟨o.dst,so,gd,af⟩ t h Q) (hn:∀ t' h' a' w' ρ' U',iW C ρ' U' t' h' a' w'->(∀ b,U' b->U b\/(nm<=b/\b<nm+8))->Q t' h'->next a' w'):o.wp P a w next K:=by
 have hd':∀ d,o.dst=some d->d<a.tmps.size:=fun d h=>by rw [hS.sz];exact hd d h
 by_cases hcall:∃ f args,so= .call f args
 ·obtain ⟨f,args,rfl⟩:=hcall
  simp only [jJ] at hw
  unfold kg at hw
  split at hw
  ·rename_i g caps xs hf hxs
   split at hw
   ·rename_i hg
    obtain ⟨hE,hW⟩:=hw
    obtain ⟨c,hop,hc,rfl⟩:=YA hs
    obtain ⟨vs,EB,OM⟩:=VR.KO (Nat.lt_trans hg (by decide)) (bM hS.tm hf)
    rw [o7,if_pos hg] at EB
    have hargs:=Cy hS.tm hxs
    have hvl:=hargs.append OM
    unfold Oper.wp
    rw [afo hc EB hop hE]
    rw [Oper.upon_enter]
    have e0:c.args.map a.eval=(c.args.toList.map a.eval).toArray:=by apply Array.ext';simp
    rw [e0]
    refine (hW C ρ U w _ hS.hr hfr hvl).mono fun e w' hpost=> ?_
    obtain ⟨v,r,h',ρ',U',rfl,hr',hv',hk,hU,hQ⟩:=hpost
    refine hn _ _ _ _ ρ' U' ⟨hr',Tm.put (fun k x hx=> ?_) hv' hd',by rw [put_defers];exact hS.defers,by rw [EA];exact hS.sz⟩ hU hQ
    ·obtain ⟨u,h1,h2⟩:=hS.tm k x hx
     exact ⟨u,h1,hk _ _ h2⟩
   ·rename_i hg
    split at hw
    ·rename_i hg2
     obtain ⟨hE,hW⟩:=hw
     obtain ⟨c,hop,hc,rfl⟩:=YA hs
     obtain ⟨vs,EB,OM⟩:=VR.KO hg2 (bM hS.tm hf)
     rw [o7,if_neg hg] at EB
     have hargs:=Cy hS.tm hxs
     have hvl:=OM.append hargs
     unfold Oper.wp
     rw [afp hc EB hop hE]
     rw [Oper.upon_enter]
     have e0:c.args.map a.eval=(c.args.toList.map a.eval).toArray:=by apply Array.ext';simp
     rw [e0]
     refine (hW C ρ U w _ hS.hr hfr hvl).mono fun e w' hpost=> ?_
     obtain ⟨v,r,h',ρ',U',rfl,hr',hv',hk,hU,hQ⟩:=hpost
     refine hn _ _ _ _ ρ' U' ⟨hr',Tm.put (fun k x hx=> ?_) hv' hd',by rw [put_defers];exact hS.defers,by rw [EA];exact hS.sz⟩ hU hQ
     ·obtain ⟨u,h1,h2⟩:=hS.tm k x hx
      exact ⟨u,h1,hk _ _ h2⟩
    ·exact hw.elim
  ·exact hw.elim
 ·by_cases hnil:∃ neg x,so= .lS neg x
  ·obtain ⟨neg,x,rfl⟩:=hnil
   obtain ⟨ty,e,n,c,ty',ho,hty⟩:=afq hs
   simp only [jJ,KT] at hw
   have go1:∀ b n' c',a.eval x= .slice b n' c'->Q (bP t o.dst (.v (.bool (if neg then !b.isNone else b.isNone)))) h->o.wp P a w next K:=by
    intro b n' c' hx hQ
    unfold Oper.wp
    rw [afr hty ho hx,Oper.upon_value]
    exact hn _ _ _ _ ρ U ⟨hS.hr,Tm.put hS.tm (.p (.v _)) hd',by rw [put_defers];exact hS.defers,by rw [EA];exact hS.sz⟩ (fun b hb=> .inl hb) hQ
   split at hw
   ·rename_i b hk
    unfold vw at hk
    split at hk
    ·rename_i n' c' hx
     cases hk
     exact go1 none n' c' (bM hS.tm hx).dG hw
    ·rename_i sz y ys hx
     cases hk
     have hv:=(bM hS.tm hx).rJ
     generalize hu:a.eval x=u at hv
     cases hv
     exact go1 (some _) _ _ hu hw
    ·cases hk
    ·cases hk
    ·cases hk
   ·rename_i hk
    have hsl:∃ b n' c',a.eval x= .slice b n' c':=by
     unfold vw at hk
     split at hk
     ·cases hk
     ·cases hk
     ·rename_i sz hx
      have hv:=(bM hS.tm hx).rJ
      generalize hu:a.eval x=u at hv
      cases hv<;>exact ⟨_,_,_,rfl⟩
     ·rename_i hx
      obtain ⟨hu,⟨ad,len',cap',hsl⟩,hown⟩:=(bM hS.tm hx).qx
      exact ⟨_,_,_,hsl⟩
     ·cases hk
    obtain ⟨b,n',c',hx⟩:=hsl
    refine go1 b n' c' hx ?_
    cases hb:b.isNone
    ·simpa [hb] using hw.2
    ·simpa [hb] using hw.1
   ·exact hw.elim
  ·have hw':vB nm t h so (aM nm t h so) fun t h e=>Q (bP t o.dst e.val) (e.upd++h):=by
    cases so<;>first|exact hw|exact absurd ⟨_,_,rfl⟩ hcall|exact absurd ⟨_,_,rfl⟩ hnil
   have main:∀ (t:List (Nat×AV)) (h:List (Nat×Ob)) (ρ:Nat->Loc) (U:Nat->Prop) (e:E),iW C ρ U t h a w->(∀ b,U b->¬ (nm<=b/\b<nm+8))->aM nm t h so=some e->e.pre->Q (bP t o.dst e.val) (e.upd++h)->
    (∀ t' h' a' w' ρ' U',iW C ρ' U' t' h' a' w'->(∀ b,U' b->U b\/(nm<=b/\b<nm+8))->Q t' h'->next a' w')->o.wp P a w next K:=by
    intro t h ρ U e hS hfr he hp hQ hn
    obtain ⟨v,w',ρ',U',hrun,hr',hv',hk,hU⟩:=afn hs hS.hr hS.tm (fun hu=>hfr _ hu ⟨Nat.le_refl _,by omega⟩) he hp
    have YC:iW C ρ' U' (bP t o.dst e.val) (e.upd++h) (a.put o.dst v) w':=
     ⟨hr',Tm.put (fun k x hx=>by
      obtain ⟨u,h1,h2⟩:=hS.tm k x hx
      exact ⟨u,h1,hk _ _ h2⟩) hv' hd',by rw [put_defers];exact hS.defers,by rw [EA];exact hS.sz⟩
    have jN:∀ b,U' b->U b\/(nm<=b/\b<nm+8):=fun b hb=>by
     rcases hU b hb with h1|h1
     ·exact .inl h1
     ·exact .inr (by omega)
    unfold Oper.wp
    rcases hrun with hrun|⟨rfl,hrun⟩
    ·rw [hrun,Oper.upon_value]
     exact hn _ _ _ _ ρ' U' YC jN hQ
    ·rw [hrun,Oper.upon_skip]
     exact hn _ _ _ _ ρ' U' YC jN hQ
   unfold vB at hw'
   split at hw'
   ·rename_i e he
    exact main t h ρ U e hS hfr he hw'.1 hw'.2 hn
   ·obtain ⟨t',h',hW,hE⟩:=hw'
    unfold onE at hE
    split at hE
    ·rename_i e he
     obtain ⟨ρ',U',hR,jN⟩:=hW C ρ U a w ⟨hS.hr,hS.defers,hS.sz,hS.tm⟩
     exact main t' h' ρ' U' e ⟨hR.hr,hR.tm,hR.defers,hR.sz⟩ (fun b hb=>hfr b (jN b hb)) he hE.1 hE.2 fun t'' h'' a'' w'' OO xI OP OQ afs=>
      hn t'' h'' a'' w'' OO xI OP (fun b hb=>(OQ b hb).imp (jN b) id) afs
    ·exact hE.elim
theorem YD {ops:Array Oper} {draw:Bool} {so:aH} (hs:lU P ops draw o=some so):
 strip P o=some so.op/\so.dst=o.dst/\(so.guard=none↔o.guard=none)/\∀ g wt,so.guard=some (g,wt)->∃ j,o.guard=some (j,wt)/\((ops[j]?).bind (·.dst))=some g:=by
 unfold lU at hs
 split at hs
 ·rename_i sp hsp
  split at hs
  ·rename_i hg
   cases hs
   exact ⟨hsp,rfl,by simp [hg],fun g wt e=>by simp at e⟩
  ·rename_i j wt hg
   split at hs
   ·rename_i g hgd
    cases hs
    refine ⟨hsp,rfl,by simp [hg],fun g' wt' e=> ?_⟩
    simp only [Option.some.injEq,Prod.mk.injEq] at e
    obtain ⟨rfl,rfl⟩:=e
    exact ⟨j,hg,hgd⟩
   ·cases hs
 ·cases hs
theorem YE {ops:Array Oper} {draw:Bool} {l:List Oper} {sl:List aH} (hs:kQ P ops draw (o::l)=some sl):
 ∃ so sl',sl=so::sl'/\lU P ops draw o=some so/\kQ P ops draw l=some sl':=by
 unfold kQ at hs
 split at hs
 ·rename_i so hso
  split at hs
  ·rename_i sl' hsl
   cases hs
   exact ⟨so,sl',rfl,hso,hsl⟩
  ·cases hs
 ·cases hs
theorem OT {ops:Array Oper} {j g:Nat} {wt b:Bool} (hg:o.guard=some (j,wt)) (hd:((ops[j]?).bind (·.dst))=some g) (hv:a.tmps[g]? =some (.bool b)):
 Region.wanted o (yielded ops a.tmps)=(b==wt):=by
 simp only [Region.wanted,hg,yielded,hd,Option.bind_some,hv]
 cases b<;>cases wt<;>rfl
theorem YF {ops:Array Oper} {j g:Nat} {wt:Bool} {xs:Array Value} (hg:o.guard=some (j,wt)) (hd:((ops[j]?).bind (·.dst))=some g) (hv:a.tmps[g]? =some (.tuple xs)):
 Region.wanted o (yielded ops a.tmps)=false:=by
 simp only [Region.wanted,hg,yielded,hd,Option.bind_some,hv]
 cases wt<;>rfl
theorem iW.skip (hS:iW C ρ U t h a w) {dst:Option Nat} (hd:∀ d,dst=some d->d<C.nt):iW C ρ U (bP t dst (.v undef)) h (a.put dst undef) w:=
 ⟨hS.hr,Tm.put hS.tm (.p (.v _)) (fun d h=>by rw [hS.sz];exact hd d h),by rw [put_defers];exact hS.defers,by rw [EA];exact hS.sz⟩
theorem aft {ops:Array Oper} {draw:Bool} {K:Exit->Act->World->Prop} {Q:List (Nat×AV)->List (Nat×Ob)->Prop} (l:List Oper):
 ∀ (sl:List aH) (nm:Nat) (t:List (Nat×AV)) (h:List (Nat×Ob)) (a:Act) (w:World) (ρ:Nat->Loc) (U:Nat->Prop),
  kQ P ops draw l=some sl->tY C.nt sl=true->iW C ρ U t h a w->(∀ b,U b->b<nm)->wpOps P nm sl t h Q->
  (∀ t' h' a' w' ρ' U',iW C ρ' U' t' h' a' w'->(∀ b,U' b->b<nm+8*sl.length)->Q t' h'->K .normal a' w')->wpList P ops K l a w:=by
 induction l with
 |nil=>
  intro sl nm t h a w ρ U hs _ hS hU hw hn
  simp only [kQ,Option.some.injEq] at hs
  subst hs
  exact hn t h a w ρ U hS (fun b hb=>by have:=hU b hb;simp;omega) hw
 |cons o l ih=>
  intro sl nm t h a w ρ U hs hd hS hU hw hn
  obtain ⟨so,sl',rfl,hso,hsl⟩:=YE hs
  obtain ⟨h1,h2,h3,h4⟩:=YD hso
  simp only [tY,Bool.and_eq_true] at hd
  have hdst:∀ d,o.dst=some d->d<C.nt:=fun d e=>by
   have:=hd.1
   rw [h2,e] at this
   simpa using this
  have hfr:∀ b,U b->¬ (nm<=b/\b<nm+8):=fun b hb=>by have:=hU b hb;omega
  have hrest:∀ t' h' a' w' ρ' U',iW C ρ' U' t' h' a' w'->(∀ b,U' b->U b\/(nm<=b/\b<nm+8))->wpOps P (nm+8) sl' t' h' Q->wpList P ops K l a' w':=
   fun t' h' a' w' ρ' U' hS' jN hw'=>ih sl' (nm+8) t' h' a' w' ρ' U' hsl hd.2 hS' (fun b hb=>by
    rcases jN b hb with e|e
    ·have:=hU b e;omega
    ·omega) hw' fun t'' h'' a'' w'' OO xI OP OQ hQ=>hn t'' h'' a'' w'' OO xI OP (fun b hb=>by have:=OQ b hb;simp only [List.length_cons];omega) hQ
  have hdo:∀ {gd af},jJ P nm ⟨o.dst,so.op,gd,af⟩ t h (fun t' h'=>wpOps P (nm+8) sl' t' h' Q)->o.wp P a w (wpList P ops K l) K:=fun hw'=>
   YB h1 hS hfr hdst hw' hrest
  have CK:wpOps P (nm+8) sl' (bP t o.dst (.v undef)) h Q->wpList P ops K l (a.put o.dst undef) w:=fun hw'=>
   hrest _ _ _ _ ρ U (hS.skip hdst) (fun b hb=> .inl hb) hw'
  obtain ⟨dst,op,gd,af⟩:=so
  subst h2
  simp only [wpOps] at hw
  simp only [wpList]
  split at hw
  ·rename_i hg
   have hg':=h3.1 rfl
   have:Region.wanted o (yielded ops a.tmps)=true:=by simp [Region.wanted,hg']
   rw [if_pos this]
   exact .inl (hdo hw)
  ·rename_i g wt
   obtain ⟨j,hj,hjd⟩:=h4 g wt rfl
   unfold qC at hw
   split at hw
   ·rename_i b hx
    obtain ⟨u,hu,hv⟩:=hS.tm g _ hx
    have:=hv.dG
    subst this
    rw [OT hj hjd hu]
    cases b<;>cases wt
    ·exact .inl (hdo (hw.2 rfl))
    ·exact CK (hw.2 rfl)
    ·exact CK (hw.1 rfl)
    ·exact .inl (hdo (hw.1 rfl))
   ·rename_i xs hx
    obtain ⟨u,hu,hv⟩:=hS.tm g _ hx
    have:=hv.dG
    subst this
    rw [YF hj hjd hu]
    exact CK hw
   ·exact hw.elim
end
end Go.Eng
namespace Go.Eng
open Go
theorem CO {t t':List (Nat×AV)}:∀ (l:List Operand),(∀ x ∈ l,ev t' x=ev t x)->j5 t' l=j5 t l
 |[],_=>rfl
 |x::l,h=>by
  simp only [j5,h x (List.mem_cons_self ..),CO l fun y hy=>h y (List.mem_cons_of_mem _ hy)]
theorem YG {t t':List (Nat×AV)}:∀ (l:List (Nat×Nat×Operand)),(∀ x ∈ l.map (fun p=>p.2.2),ev t' x=ev t x)->tK t' l=tK t l
 |[],_=>rfl
 |(a,b,x)::l,h=>by
  simp only [tK,h x (by simp),YG l fun y hy=>h y (by simp only [List.map_cons,List.mem_cons];exact .inr hy)]
theorem YH {t t':List (Nat×AV)} {sz:Nat}:∀ (l:List (Nat×Operand)),(∀ x ∈ l.map (fun p=>p.2),ev t' x=ev t x)->tL t' sz l=tL t sz l
 |[],_=>rfl
 |(a,x)::l,h=>by
  simp only [tL,h x (by simp),YH l fun y hy=>h y (by simp only [List.map_cons,List.mem_cons];exact .inr hy)]
theorem YI {h h':List (Nat×Ob)}:∀ (ys:List AV),(∀ b ∈ eT ys,get h' b=get h b)->nM h' ys=nM h ys
 |[],_=>rfl
 |c::cs,hh=>by
  simp only [eT,List.mem_append] at hh
  have e1:tO h' c=tO h c:=by
   cases c<;>simp only [tO]
   rename_i b sz off len
   rw [hh b (.inl (by simp [tN]))]
  simp only [nM,e1,YI cs fun b hb=>hh b (.inr hb)]
theorem afu {y:AV} {ys:List AV} (h:mM y=some ys):eT ys=KR y:=by
 unfold mM at h
 split at h
 ·split at h
  ·cases h;rfl
  ·cases h
 ·rename_i hna
  split at h
  ·cases h
   have:KR y=tN y:=by
    cases y<;>first|rfl|exact absurd rfl (hna _)
   rw [this];simp [eT]
  ·cases h
theorem YJ {t t':List (Nat×AV)} {h h':List (Nat×Ob)} {sz:Nat}:∀ (l:List (Nat×Operand)),(∀ x ∈ l.map (fun p=>p.2),ev t' x=ev t x)->(∀ b ∈ Ei t l,get h' b=get h b)->nO t' h' sz l=nO t h sz l
 |[],_,_=>rfl
 |(a,x)::l,hx,hb=>by
  simp only [Ei,List.mem_append] at hb
  have e1:=hx x (by simp)
  have e2:=YJ (h:=h) (h':=h') (sz:=sz) l (fun y hy=>hx y (by simp only [List.map_cons,List.mem_cons];exact .inr hy)) (fun b hm=>hb b (.inr hm))
  simp only [nO,e1,e2]
  cases he:ev t x with
  |none=>rfl
  |some y=>
   rw [he] at hb
   cases hl:nO t h sz l with
   |none=>rfl
   |some r=>
    obtain ⟨l',bs⟩:=r
    cases hc:mM y with
    |none=>simp only [hc]
    |some ys=>
     have e3:nM h' ys=nM h ys:=YI ys fun b hm=>hb b (.inl (by simp only;rw [<-afu hc];exact hm))
     simp only [hc,e3]
theorem K7 {t t':List (Nat×AV)} {d:Nat} (x:Option Operand) (h:∀ y ∈ x.toList,ev t' y=ev t y):bound t' d x=bound t d x:=by
 cases x with
 |none=>rfl
 |some y=>simp only [bound,h y (by simp)]
theorem OU {h h':List (Nat×Ob)} {sz:Nat} (x:Option AV) (hb:∀ b ∈ fE x,get h' b=get h b):j6 h' sz x=j6 h sz x:=by
 unfold j6
 split<;>try rfl
 rename_i b sz' off len
 rw [hb b (by simp [fE,AV.kN])]
theorem afv {nm:Nat} {t t':List (Nat×AV)} {h h':List (Nat×Ob)} (op:gm) (hx:∀ x ∈ tQ op,ev t' x=ev t x) (hb:∀ b ∈ dM t op,get h' b=get h b):
 aM nm t' h' op=aM nm t h op:=by
 cases op<;>simp only [tQ,List.mem_cons,List.mem_append,List.not_mem_nil,or_false,forall_eq_or_imp,forall_eq] at hx<;>
  simp only [dM,List.not_mem_nil,List.mem_append] at hb<;>simp only [aM]
 case jH x=>simp only [hx]
 case pick a b c=>simp only [hx]
 case box x=>simp only [hx]
 case build zs ps=>rw [YG ps hx]
 case lD e sz zs len ps=>rw [YH ps hx,YJ ps hx hb]
 case load ag sz x=>
  rw [hx]
  cases hy:ev t x with
  |none=>rfl
  |some y=>cases y<;>first
   |rfl
   |(simp only [hy,fE,AV.kN,List.mem_cons,List.not_mem_nil,or_false,forall_eq] at hb;first|(simp only [hb];done)|(split<;>simp_all;done)|(cases z0<;>first|rfl|(rename_i y;cases y<;>first|rfl|(rename_i y;cases y<;>first|rfl|simp only [hb]))))
 case store sz x y=>
  rw [hx.1,hx.2]
  generalize ev t y=z0
  cases hy:ev t x with
  |none=>cases z0<;>rfl
  |some y=>cases y<;>first
   |rfl
   |(simp only [hy,fE,AV.kN,List.mem_cons,List.not_mem_nil,or_false,forall_eq] at hb;first|(simp only [hb];done)|(split<;>simp_all;done)|(cases z0<;>first|rfl|(rename_i y;cases y<;>first|rfl|(rename_i y;cases y<;>first|rfl|simp only [hb]))))
 case o8 x=>
  rw [hx]
  cases hy:ev t x with
  |none=>rfl
  |some y=>cases y<;>first
   |rfl
   |(simp only [hy,fE,AV.kN,List.mem_cons,List.not_mem_nil,or_false,forall_eq] at hb;first|(simp only [hb];done)|(split<;>simp_all;done)|(cases z0<;>first|rfl|(rename_i y;cases y<;>first|rfl|(rename_i y;cases y<;>first|rfl|simp only [hb]))))
 case bin op x y=>simp only [hx]
 case eqs neg ks x y=>simp only [hx]
 case o9 neg x y=>simp only [hx]
 case un op x=>simp only [hx]
 case conv k x=>simp only [hx]
 case mJ x=>rw [hx,OU _ hb]
 case qy f cs=>rw [CO cs hx]
 case Ee f cs=>rw [CO cs hx]
 case look z m k=>
  rw [hx.1,hx.2]
  generalize ev t k=z0
  cases hy:ev t m with
  |none=>cases z0<;>rfl
  |some y=>cases y<;>first
   |rfl
   |(simp only [hy,fE,AV.kN,List.mem_cons,List.not_mem_nil,or_false,forall_eq] at hb;first|(simp only [hb];done)|(split<;>simp_all;done)|(cases z0<;>first|rfl|(rename_i y;cases y<;>first|rfl|(rename_i y;cases y<;>first|rfl|simp only [hb]))))
 case Ct z m k=>
  rw [hx.1,hx.2]
  generalize ev t k=z0
  cases hy:ev t m with
  |none=>cases z0<;>rfl
  |some y=>cases y<;>first
   |rfl
   |(simp only [hy,fE,AV.kN,List.mem_cons,List.not_mem_nil,or_false,forall_eq] at hb;first|(simp only [hb];done)|(split<;>simp_all;done)|(cases z0<;>first|rfl|(rename_i y;cases y<;>first|rfl|(rename_i y;cases y<;>first|rfl|simp only [hb]))))
 case lT m k x=>
  rw [hx.1,hx.2.1,hx.2.2]
  generalize ev t k=z0
  generalize ev t x=z1
  cases hy:ev t m with
  |none=>cases z0<;>cases z1<;>rfl
  |some y=>cases y<;>first
   |rfl
   |(simp only [hy,fE,AV.kN,List.mem_cons,List.not_mem_nil,or_false,forall_eq] at hb;first|(simp only [hb];done)|(split<;>simp_all;done)|(cases z0<;>first|rfl|(rename_i y;cases y<;>first|rfl|(rename_i y;cases y<;>first|rfl|simp only [hb]))))
 case nI e sz bytes zs l c=>simp only [hx]
 case slice sz x lo hi mx=>
  have e1:bound t' 0 lo=bound t 0 lo:=K7 lo fun y hy=>hx.2 y (.inl hy)
  have e2:∀ d,bound t' d hi=bound t d hi:=fun d=>K7 hi fun y hy=>hx.2 y (.inr (.inl hy))
  cases mx with
  |some m=>
   have e3:ev t' m=ev t m:=hx.2 m (.inr (.inr (by simp)))
   cases hi with
   |none=>
    simp only [e1,e3,hx.1]
    generalize bound t 0 lo=z0
    cases ev t x with
    |none=>cases z0<;>rfl
    |some y=>cases y<;>cases z0<;>first|rfl|(simp only [];done)|(split<;>rfl)|(split<;>simp_all)
   |some q=>
    have e4:ev t' q=ev t q:=hx.2 q (.inr (.inl (by simp)))
    simp only [e1,e3,e4,hx.1]
    generalize bound t 0 lo=z0
    cases hy:ev t x with
    |none=>cases z0<;>rfl
    |some y=>cases y<;>cases z0<;>first|rfl|(simp only [];done)|(split<;>rfl)|(split<;>simp_all<;>(try (simp only [fE,AV.kN,List.mem_cons,List.not_mem_nil,or_false,forall_eq] at hb;simp only [hb])))
  |none=>
  simp only [e1,e2]
  rw [hx.1]
  generalize bound t 0 lo=z0
  cases hy:ev t x with
  |none=>cases z0<;>rfl
  |some y=>cases y<;>first
   |rfl
   |(simp only [hy,fE,AV.kN,List.mem_cons,List.not_mem_nil,or_false,forall_eq] at hb;first|(simp only [hb];done)|(split<;>simp_all;done)|(cases z0<;>first|rfl|(rename_i y;cases y<;>first|rfl|(rename_i y;cases y<;>first|rfl|simp only [hb]))))
 case mK x lo hi=>
  have e1:bound t' 0 lo=bound t 0 lo:=K7 lo fun y hy=>hx.2 y (.inl hy)
  have e2:∀ d,bound t' d hi=bound t d hi:=fun d=>K7 hi fun y hy=>hx.2 y (.inr hy)
  simp only [e1,e2,hx.1]
 case lF off x=>
  rw [hx]
  cases hy:ev t x with
  |none=>rfl
  |some y=>cases y<;>first
   |rfl
   |(simp only [hy,fE,AV.kN,List.mem_cons,List.not_mem_nil,or_false,forall_eq] at hb;first|(simp only [hb];done)|(split<;>simp_all;done)|(cases z0<;>first|rfl|(rename_i y;cases y<;>first|rfl|(rename_i y;cases y<;>first|rfl|simp only [hb]))))
 case qz ag off sz x=>simp only [hx]
 case nJ sz x i=>
  rw [hx.1,hx.2]
  generalize ev t i=z0
  cases hy:ev t x with
  |none=>cases z0<;>rfl
  |some y=>cases y<;>first
   |rfl
   |(simp only [hy,fE,AV.kN,List.mem_cons,List.not_mem_nil,or_false,forall_eq] at hb;first|(simp only [hb];done)|(split<;>simp_all;done)|(cases z0<;>first|rfl|(rename_i y;cases y<;>first|rfl|(rename_i y;cases y<;>first|rfl|simp only [hb]))))
 case idx ag len sz x i=>simp only [hx]
 case idxs x i=>simp only [hx]
 case len x=>
  rw [hx]
  cases hy:ev t x with
  |none=>rfl
  |some y=>cases y<;>first
   |rfl
   |(simp only [hy,fE,AV.kN,List.mem_cons,List.not_mem_nil,or_false,forall_eq] at hb;first|(simp only [hb];done)|(split<;>simp_all;done)|(cases z0<;>first|rfl|(rename_i y;cases y<;>first|rfl|(rename_i y;cases y<;>first|rfl|simp only [hb]))))
 case qA x=>simp only [hx]
 case cap x=>simp only [hx]
 case app e sz bytes zs s x=>
  rw [hx.1,hx.2,OU (ev t x) fun b hb'=>hb b (.inr hb')]
  have hb:=fun b h=>hb b (.inl h)
  cases hy:ev t s with
  |none=>rfl
  |some y=>cases y<;>first
   |rfl
   |(simp only [hy,fE,AV.kN,List.mem_cons,List.not_mem_nil,or_false,forall_eq] at hb;first|(simp only [hb];done)|(split<;>simp_all;done)|(cases z0<;>first|rfl|(rename_i y;cases y<;>first|rfl|(rename_i y;cases y<;>first|rfl|simp only [hb]))))
 case copy sz d x=>
  rw [hx.1,hx.2,OU (ev t x) fun b hb'=>hb b (.inr hb')]
  have hb:=fun b h=>hb b (.inl h)
  cases hy:ev t d with
  |none=>rfl
  |some y=>cases y<;>first
   |rfl
   |(simp only [hy,fE,AV.kN,List.mem_cons,List.not_mem_nil,or_false,forall_eq] at hb;first|(simp only [hb];done)|(split<;>simp_all;done)|(cases z0<;>first|rfl|(rename_i y;cases y<;>first|rfl|(rename_i y;cases y<;>first|rfl|simp only [hb]))))
 case nK e sz bytes zs s x=>simp only [hx]
 case nL sz zs x=>
  rw [hx]
  cases hy:ev t x with
  |none=>rfl
  |some y=>cases y<;>first
   |rfl
   |(simp only [hy,fE,AV.kN,List.mem_cons,List.not_mem_nil,or_false,forall_eq] at hb;first|(simp only [hb];done)|(split<;>simp_all;done)|(cases z0<;>first|rfl|(rename_i y;cases y<;>first|rfl|(rename_i y;cases y<;>first|rfl|simp only [hb]))))
 case ext i x=>simp only [hx]
 case pq mx xs=>rw [CO xs hx]
section fold
variable {α β:Type}
def fJ (u:α->List (Nat×β)):List α->(Nat->Bool)->List (Nat×β)->List (Nat×β)
 |[],_,t=>t
 |x::L,D,t=>fJ u L (fun i=>D (i+1)) (bif D 0 then u x++t else t)
def keys (us:List (Nat×β)):List Nat:=us.map Prod.fst
theorem K8 {us t:List (Nat×β)} {k:Nat} (h:k ∈ keys us):get (us++t) k=get us k:=by
 induction us with
 |nil=>simp [keys] at h
 |cons p us ih=>
  obtain ⟨a,b⟩:=p
  simp only [List.cons_append,get]
  by_cases e:a=k
  ·rw [if_pos e,if_pos e]
  ·rw [if_neg e,if_neg e]
   simp only [keys,List.map_cons,List.mem_cons] at h
   exact ih (h.resolve_left (fun h=>e h.symm))
theorem YK {us t:List (Nat×β)} {k:Nat} (h:k ∉ keys us):get (us++t) k=get t k:=by
 induction us with
 |nil=>rfl
 |cons p us ih=>
  obtain ⟨a,b⟩:=p
  simp only [keys,List.map_cons,List.mem_cons,not_or] at h
  simp only [List.cons_append,get]
  rw [if_neg (fun e=>h.1 e.symm)]
  exact ih h.2
variable {u:α->List (Nat×β)}
theorem xJ:∀ (L:List α) (D E:Nat->Bool) (t t':List (Nat×β)) (k:Nat),get t k=get t' k->
 (∀ i x,L[i]? =some x->k ∈ keys (u x)->D i=E i)->get (fJ u L D t) k=get (fJ u L E t') k
 |[],_,_,_,_,_,h,_=>h
 |x::L,D,E,t,t',k,h,hk=>by
  simp only [fJ]
  refine xJ L _ _ _ _ k ?_ fun i y hy hm=>hk (i+1) y (by simpa using hy) hm
  by_cases hx:k ∈ keys (u x)
  ·rw [<-hk 0 x rfl hx]
   cases D 0
   ·exact h
   ·simp only [cond_true];rw [K8 hx,K8 hx]
  ·cases D 0<;>cases E 0<;>simp only [cond_true,cond_false,YK hx]<;>exact h
theorem EC:∀ (L:List α) (t:List (Nat×β)),fJ u L (fun _=>false) t=t
 |[],_=>rfl
 |_::L,t=>by simp only [fJ,cond_false];exact EC L t
theorem YL:∀ (L:List α) (j:Nat) (x:α) (D:Nat->Bool) (t:List (Nat×β)) (k:Nat),L[j]? =some x->D j=true->k ∈ keys (u x)->
 (∀ i y,j<i->D i=true->L[i]? =some y->k ∉ keys (u y))->get (fJ u L D t) k=get (u x) k
 |[],_,_,_,_,_,h,_,_,_=>by simp at h
 |y::L,0,x,D,t,k,h,hD,hk,hn=>by
  simp only [List.getElem?_cons_zero,Option.some.injEq] at h
  subst h
  simp only [fJ,hD,cond_true]
  rw [xJ L _ (fun _=>false) _ _ k rfl fun i z hz hm=> ?_,EC,K8 hk]
  cases hd:D (i+1) with
  |false=>rfl
  |true=>exact absurd hm (hn (i+1) z (by omega) hd (by simpa using hz))
 |y::L,j+1,x,D,t,k,h,hD,hk,hn=>by
  simp only [fJ]
  exact YL L j x _ _ k (by simpa using h) hD hk fun i z hi hd hz=>hn (i+1) z (by omega) hd (by simpa using hz)
def jO (D:Nat->Bool) (j:Nat):Nat->Bool:=fun i=>D i||i==j
theorem YM {L:List α} {j:Nat} {x:α} {D:Nat->Bool} {t:List (Nat×β)} (h:L[j]? =some x) (hD:D j=false)
 (hn:∀ i y,j<i->D i=true->L[i]? =some y->∀ k ∈ keys (u x),k ∉ keys (u y)) (k:Nat):
 get (fJ u L (jO D j) t) k=get (u x++fJ u L D t) k:=by
 by_cases hk:k ∈ keys (u x)
 ·rw [K8 hk]
  refine YL L j x _ t k h (by simp [jO]) hk fun i y hi hd hy=>hn i y hi ?_ hy k hk
  have:(i==j)=false:=by simp;omega
  simpa [jO,this] using hd
 ·rw [YK hk]
  refine xJ L _ _ _ _ k rfl fun i y hy hm=> ?_
  by_cases e:i=j
  ·subst e
   rw [h] at hy;cases hy
   exact absurd hm hk
  ·simp [jO,e]
end fold
theorem YN (acc:List Nat) (i:Nat):∀ (af:List Nat) (s:Nat),(af.foldl (fun s e=>s|||(2 ^ e|||acc.getD e 0)) s).testBit i=true->
 s.testBit i=true\/∃ e ∈ af,e=i\/(acc.getD e 0).testBit i=true
 |[],s,h=> .inl h
 |e::af,s,h=>by
  simp only [List.foldl_cons] at h
  rcases YN acc i af _ h with h|⟨e',he',h⟩
  ·simp only [Nat.testBit_or,Bool.or_eq_true,Nat.testBit_two_pow,decide_eq_true_eq] at h
   rcases h with h|h|h
   ·exact .inl h
   ·exact .inr ⟨e,List.mem_cons_self ..,.inl h⟩
   ·exact .inr ⟨e,List.mem_cons_self ..,.inr h⟩
  ·exact .inr ⟨e',List.mem_cons_of_mem _ he',h⟩
def OV (as:List (List Nat)) (acc:List Nat):Prop:=
 ∀ (j m:Nat),acc[j]? =some m->∀ D:Nat->Bool,(∀ i af,D i=true->as[i]? =some af->∀ e ∈ af,D e=true)->(∀ af,as[j]? =some af->∀ e ∈ af,D e=true)->
  ∀ i,m.testBit i=true->D i=true
theorem YO (as:List (List Nat)):∀ (l:List (List Nat)) (acc:List Nat),as=as.take acc.length++l->acc.length<=as.length->OV as acc->OV as (Cv acc l)
 |[],acc,_,_,h=>h
 |af::l,acc,he,hl,h=>by
  have lV:as[acc.length]? =some af:=by
   rw [he,List.getElem?_append_right (by simp;omega)]
   simp [Nat.min_eq_left hl]
  have hlt:acc.length<as.length:=(List.getElem?_eq_some_iff.1 lV).1
  refine YO as l _ ?_ (by simp;omega) ?_
  ·have e1:(acc++[af.foldl (fun s e=>s|||(2 ^ e|||acc.getD e 0)) 0]).length=acc.length+1:=by simp
   rw [e1,List.take_succ,lV]
   simpa using he
  ·intro j m hj D hD hj' i hi
   rw [List.getElem?_append] at hj
   split at hj
   ·exact h j m hj D hD hj' i hi
   ·rename_i hge
    have hj0:j - acc.length=0:=by
     rcases Nat.eq_zero_or_pos (j - acc.length) with e|e
     ·exact e
     ·rw [List.getElem?_eq_none (by simp;omega)] at hj;cases hj
    rw [hj0] at hj
    simp only [List.getElem?_cons_zero,Option.some.injEq] at hj
    have hje:j=acc.length:=by omega
    subst hje
    rw [<-hj] at hi
    rcases YN acc i af 0 hi with h0|⟨e,he',h0⟩
    ·simp at h0
    ·have hDe:=hj' af lV e he'
     rcases h0 with rfl|h0
     ·exact hDe
     ·have hlt:e<acc.length:=by
       rcases Nat.lt_or_ge e acc.length with h1|h1
       ·exact h1
       ·rw [List.getD_eq_getElem?_getD,List.getElem?_eq_none h1] at h0
        simp at h0
      have hm:acc[e]? =some (acc.getD e 0):=by
       rw [List.getD_eq_getElem?_getD,List.getElem?_eq_getElem hlt];rfl
      exact h e _ hm D hD (fun af' afy e' afz=>hD e af' hDe afy e' afz) i h0
theorem OW:∀ (l:List aH) (n:Nat),Cx n l=true->∀ (j:Nat) (o:aH),l[j]? =some o->∀ e ∈ o.after,e<n+j
 |[],_,_,j,o,h=>by simp at h
 |o::l,n,h,0,o',h'=>by
  simp only [List.getElem?_cons_zero,Option.some.injEq] at h'
  subst h'
  simp only [Cx,Bool.and_eq_true,List.all_eq_true,decide_eq_true_eq] at h
  exact fun e he=>h.1 e he
 |o::l,n,h,j+1,o',h'=>by
  simp only [Cx,Bool.and_eq_true] at h
  intro e he
  have:=OW l (n+1) h.2 j o' (by simpa using h') e he
  omega
theorem YP (Cw:List Nat) (all:List (aH×bR)):∀ (l:List (aH×bR)) (n:Nat),Em Cw all n l=true->
 ∀ (j:Nat) (y:aH×bR),l[j]? =some y->∀ (i:Nat) (x:aH×bR),i<n+j->all[i]? =some x->(Cw.getD (n+j) 0).testBit i=true\/vC x y=true
 |[],_,_,j,o,h=>by simp at h
 |y::l,n,h,0,y',h'=>by
  simp only [List.getElem?_cons_zero,Option.some.injEq] at h'
  subst h'
  simp only [Em,Bool.and_eq_true,List.all_eq_true,Bool.or_eq_true] at h
  intro i x hi hx
  have:=h.1 (x,i) (by
   rw [List.mem_iff_getElem?]
   refine ⟨i,?_⟩
   rw [List.getElem?_zipIdx,List.getElem?_take,if_pos (by omega),hx]
   simp)
  simpa using this
 |y::l,n,h,j+1,y',h'=>by
  simp only [Em,Bool.and_eq_true] at h
  intro i x hi hx
  have:=YP Cw all l (n+1) h.2 j y' (by simpa using h') i x (by omega) hx
  have e:n+(j+1)=n+1+j:=by omega
  rw [e];exact this
theorem OX {xs ys:List Nat} (h:Ej xs ys=true) {b:Nat} (hb:b ∈ xs):b ∉ ys:=by
 simp only [Ej,List.all_eq_true,Bool.not_eq_true'] at h
 have:=h b hb
 simpa using this
end Go.Eng
namespace Go.Eng
open Go
def uT (x:aH×Rec):List (Nat×AV):=match x.1.dst with
 |some d=>[(d,x.2.val)]
 |none=>[]
def uH (x:aH×Rec):List (Nat×Ob):=x.2.upd
def foot (r:Rec):bR:=(r.rd,r.upd.map Prod.fst)
def Rec.skip:Rec:=⟨.v undef,[],[]⟩
theorem OY (t:List (Nat×AV)) (o:aH) (r:Rec):bP t o.dst r.val=uT (o,r)++t:=by
 unfold bP uT
 cases o.dst<;>rfl
section
variable {P:Program} {nm:Nat} {t t':List (Nat×AV)} {h h':List (Nat×Ob)}
theorem ED:∀ (l:List Operand),(∀ k ∈ tT l,get t' k=get t k)->∀ x ∈ l,ev t' x=ev t x
 |[],_,x,hx=>by simp at hx
 |y::l,h,x,hx=>by
  rcases List.mem_cons.1 hx with rfl|hx
  ·cases x<;>simp only [tT,List.mem_cons,forall_eq_or_imp] at h<;>simp only [ev]
   exact h.1
  ·refine ED l (fun k hk=>h k ?_) x hx
   cases y<;>simp only [tT,List.mem_cons]<;>first|exact hk|exact .inr hk
def K9 (P:Program) (nm:Nat) (o:aH) (t:List (Nat×AV)) (h:List (Nat×Ob)) (r:Rec):Prop:=
 ∀ t' h',(∀ k ∈ tT (tQ o.op),get t' k=get t k)->(∀ b ∈ r.rd,get h' b=get h b)->∀ Q:List (Nat×AV)->List (Nat×Ob)->Prop,
  Q (bP t' o.dst r.val) (r.upd++h')->jJ P nm o t' h' Q
theorem YQ {o:aH} {k:Rec->Prop} (hw:pE P nm o t h k):∃ r,k r/\K9 P nm o t h r:=by
 unfold pE at hw
 split at hw
 ·rename_i f args hop
  unfold kg at hw
  split at hw
  ·rename_i g caps xs hf hxs
   split at hw
   ·rename_i hg
    obtain ⟨r,hc,hk⟩:=hw
    refine ⟨r,hk,fun t' h' ht hb Q hQ=> ?_⟩
    have he:=ED _ ht
    simp only [hop,tQ,List.mem_cons,forall_eq_or_imp] at he
    unfold jJ
    rw [hop]
    simp only [he.1,CO args he.2,hf,hxs,kg,if_pos hg]
    exact hc h' hb _ hQ
   ·rename_i hg
    split at hw
    ·rename_i hg2
     obtain ⟨r,hc,hk⟩:=hw
     refine ⟨r,hk,fun t' h' ht hb Q hQ=> ?_⟩
     have he:=ED _ ht
     simp only [hop,tQ,List.mem_cons,forall_eq_or_imp] at he
     unfold jJ
     rw [hop]
     simp only [he.1,CO args he.2,hf,hxs,kg,if_neg hg,if_pos hg2]
     exact hc h' hb _ hQ
    ·exact hw.elim
  ·exact hw.elim
 ·rename_i neg x hop
  unfold Om at hw
  split at hw
  ·rename_i b hb
   refine ⟨_,hw,fun t' h' ht _ Q hQ=> ?_⟩
   have he:=ED _ ht
   simp only [hop,tQ,List.mem_cons,List.not_mem_nil,or_false,forall_eq] at he
   unfold jJ
   rw [hop]
   simp only [he,hb,KT]
   exact hQ
  ·exact hw.elim
 ·rename_i op h1 h2
  unfold onE at hw
  split at hw
  ·rename_i e he
   refine ⟨_,hw.2,fun t' h' ht hb Q hQ=> ?_⟩
   have hd:=afv (nm:=nm) o.op (ED _ ht) hb
   rw [he] at hd
   unfold jJ
   split
   ·rename_i f args hop;exact absurd hop (h1 f args)
   ·rename_i neg x hop;exact absurd hop (h2 neg x)
   ·unfold vB;rw [hd];exact ⟨hw.1,hQ⟩
  ·exact hw.elim
def La (P:Program) (nm:Nat) (o:aH) (t:List (Nat×AV)) (h:List (Nat×Ob)) (r:Rec):Prop:=
 (o.guard=none/\K9 P nm o t h r)\/∃ g want,o.guard=some (g,want)/\
  ((get t g=some (.v (.bool want))/\K9 P nm o t h r)\/(r=Rec.skip/\((get t g=some (.v (.bool (!want))))\/∃ xs,get t g=some (.v (.tuple xs)))))
theorem YR:∀ (l:List aH) (nm:Nat) (acc:List bR) (t:List (Nat×AV)) (h:List (Nat×Ob)) (Q:List bR->List (Nat×AV)->List (Nat×Ob)->Prop),
 kP P nm l acc t h Q->∃ rs:List Rec,rs.length=l.length/\Q ((rs.map foot).reverse++acc) (fJ uT (l.zip rs) (fun _=>true) t) (fJ uH (l.zip rs) (fun _=>true) h)/\
  ∀ j o r,l[j]? =some o->rs[j]? =some r->La P (nm+8*j) o (fJ uT (l.zip rs) (fun i=>decide (i<j)) t) (fJ uH (l.zip rs) (fun i=>decide (i<j)) h) r
 |[],nm,acc,t,h,Q,hw=>⟨[],rfl,hw,fun j o r ho=>by simp at ho⟩
 |o::l,nm,acc,t,h,Q,hw=>by
  apply Classical.byContradiction
  intro hno
  have key:∀ r,La P nm o t h r->kP P (nm+8) l (foot r::acc) (bP t o.dst r.val) (r.upd++h) Q->False:=by
   intro r hr hw
   obtain ⟨rs,h1,h2,h3⟩:=YR l _ _ _ _ Q hw
   refine hno ⟨r::rs,by simp [h1],?_,fun j o' r' ho hr'=> ?_⟩
   ·simp only [List.map_cons,List.reverse_cons,List.append_assoc,List.singleton_append,List.zip_cons_cons,fJ,cond_true]
    rw [<-OY]
    exact h2
   ·cases j with
    |zero=>
     simp only [List.getElem?_cons_zero,Option.some.injEq] at ho hr'
     subst ho;subst hr'
     simp only [Nat.mul_zero,Nat.add_zero,Nat.not_lt_zero,decide_false,EC]
     exact hr
    |succ j=>
     have:=h3 j o' r' (by simpa using ho) (by simpa using hr')
     have e1:nm+8+8*j=nm+8*(j+1):=by omega
     rw [e1] at this
     simp only [List.zip_cons_cons,fJ,Nat.zero_lt_succ,decide_true,cond_true,Nat.add_lt_add_iff_right]
     rw [<-OY]
     exact this
  have OZ:(∃ g want,o.guard=some (g,want)/\((get t g=some (.v (.bool (!want))))\/∃ xs,get t g=some (.v (.tuple xs))))->
   kP P (nm+8) l (([],[])::acc) (bP t o.dst (.v undef)) h Q->False:=fun hg hw=>
   key Rec.skip (.inr (by obtain ⟨g,want,e,hh⟩:=hg;exact ⟨g,want,e,.inr ⟨rfl,hh⟩⟩)) hw
  simp only [kP] at hw
  split at hw
  ·rename_i hg
   obtain ⟨r,hk,hr⟩:=YQ hw
   exact key r (.inl ⟨hg,hr⟩) hk
  ·rename_i g want hg
   unfold qC at hw
   split at hw
   ·rename_i b hb
    have YS:b=want->pE P nm o t h (fun r=>kP P (nm+8) l ((r.rd,r.upd.map Prod.fst)::acc) (bP t o.dst r.val) (r.upd++h) Q)->False:=fun e hw'=>by
     subst e
     obtain ⟨r,hk,hr⟩:=YQ hw'
     exact key r (.inr ⟨g,b,hg,.inl ⟨hb,hr⟩⟩) hk
    cases b<;>cases want
    ·exact YS rfl (hw.2 rfl)
    ·exact OZ ⟨g,true,hg,.inl hb⟩ (hw.2 rfl)
    ·exact OZ ⟨g,false,hg,.inl hb⟩ (hw.1 rfl)
    ·exact YS rfl (hw.1 rfl)
   ·rename_i xs hb
    exact OZ ⟨g,want,hg,.inr ⟨xs,hb⟩⟩ hw
   ·exact hw.elim
end
theorem HR.ext {C:Ctx} {ρ:Nat->Loc} {U:Nat->Prop} {h h':List (Nat×Ob)} {w:World} (hr:HR C ρ U h w) (e:∀ b,get h' b=get h b):HR C ρ U h' w:=
 {hr with
  hp:=fun b o hb=>hr.hp b o (by rw [<-e];exact hb)
  hd:=fun b hb=>hr.hd b (by rw [<-e];exact hb)
  fix:=fun b l hb=>by
   obtain ⟨h1,h2,cs,h3⟩:=hr.fix b l hb
   exact ⟨h1,h2,cs,by rw [e];exact h3⟩}
theorem iW.ext {C:Ctx} {ρ:Nat->Loc} {U:Nat->Prop} {t t':List (Nat×AV)} {h h':List (Nat×Ob)} {a:Act} {w:World} (hS:iW C ρ U t h a w) (e1:∀ k,get t' k=get t k)
 (e2:∀ b,get h' b=get h b):iW C ρ U t' h' a w:=
 ⟨hS.hr.ext e2,fun k x hk=>hS.tm k x (by rw [<-e1];exact hk),hS.defers,hS.sz⟩
section draw
variable {P:Program} {C:Ctx} {ops:Array Oper} {sl:List aH} {rs:List Rec} {n:Nat} {t0:List (Nat×AV)} {h0:List (Nat×Ob)} {K:Exit->Act->World->Prop}
def Closed (sl:List aH) (D:Nat->Bool):Prop:=∀ i o,D i=true->sl[i]? =some o->∀ e ∈ o.after,D e=true
def Inv (C:Ctx) (sl:List aH) (rs:List Rec) (n:Nat) (t0:List (Nat×AV)) (h0:List (Nat×Ob)) (D:Nat->Bool) (a:Act) (w:World):Prop:=
 ∃ ρ U,iW C ρ U (fJ uT (sl.zip rs) D t0) (fJ uH (sl.zip rs) D h0) a w/\(∀ b,U b->b<n\/∃ i,D i=true/\i<sl.length/\n+8*i<=b/\b<n+8*i+8)
theorem CP {x y:aH×bR} (h:vC x y=true):
 (∀ d,x.1.dst=some d->d ∉ uses y.1/\y.1.dst≠some d)/\(∀ d,y.1.dst=some d->d ∉ uses x.1)/\
  (∀ b ∈ x.2.2,b ∉ y.2.1/\b ∉ y.2.2)/\(∀ b ∈ y.2.2,b ∉ x.2.1):=by
 simp only [vC,Bool.and_eq_true] at h
 obtain ⟨h1,h2,h3,h4,h5⟩:=h
 refine ⟨fun d hd=> ?_,fun d hd=> ?_,fun b hb=>⟨OX h3 hb,OX h4 hb⟩,fun b hb=>OX h5 hb⟩
 ·rw [hd] at h1
  simpa using h1
 ·rw [hd] at h2
  simpa using h2
structure afA (sl:List aH) (rs:List Rec) (D:Nat->Bool) (j:Nat) (o:aH) (r:Rec):Prop where
 tr:∀ k ∈ uses o,∀ i x,(sl.zip rs)[i]? =some x->k ∈ keys (uT x)->D i=decide (i<j)
 hr:∀ b ∈ r.rd,∀ i x,(sl.zip rs)[i]? =some x->b ∈ keys (uH x)->D i=decide (i<j)
 tw:∀ i y,j<i->D i=true->(sl.zip rs)[i]? =some y->∀ k ∈ keys (uT (o,r)),k ∉ keys (uT y)
 hw:∀ i y,j<i->D i=true->(sl.zip rs)[i]? =some y->∀ k ∈ keys (uH (o,r)),k ∉ keys (uH y)
theorem Lb {x:aH×Rec} {k:Nat} (h:k ∈ keys (uT x)):x.1.dst=some k:=by
 unfold uT keys at h
 split at h
 ·rename_i d hd;simp at h;rw [hd,h]
 ·simp at h
theorem meets (hlen:rs.length=sl.length) (hok:rT sl (rs.map foot)=true) {D:Nat->Bool} (hD:Closed sl D) {j:Nat} {o:aH} {r:Rec} (ho:sl[j]? =some o) (hr:rs[j]? =some r)
 (hj:D j=false) (hjr:∀ e ∈ o.after,D e=true):afA sl rs D j o r:=by
 simp only [rT,Bool.and_eq_true] at hok
 have lV:=OW sl 0 hok.1
 have hp:=YP _ _ _ 0 hok.2
 have hbef:OV (sl.map (·.after)) (Cv [] (sl.map (·.after))):=YO _ _ [] (by simp) (by simp) (fun j m h=>by simp at h)
 have hz:∀ (i:Nat) (x:aH×Rec),(sl.zip rs)[i]? =some x->sl[i]? =some x.1/\rs[i]? =some x.2:=fun i x hx=>by
  rw [List.getElem?_zip_eq_some] at hx
  exact hx
 have Lc:∀ (i:Nat) (x:aH) (r':Rec),sl[i]? =some x->rs[i]? =some r'->(sl.zip (rs.map foot))[i]? =some (x,foot r'):=fun i x r' h1 h2=>by
  rw [List.getElem?_zip_eq_some]
  refine ⟨h1,?_⟩
  rw [List.getElem?_map,h2];rfl
 have hDc:∀ (i:Nat) (af:List Nat),D i=true->(sl.map (·.after))[i]? =some af->∀ e ∈ af,D e=true:=fun i af hi lV=>by
  rw [List.getElem?_map] at lV
  cases hs:sl[i]? with
  |none=>rw [hs] at lV;simp at lV
  |some x=>rw [hs] at lV;simp at lV;subst lV;exact hD i x hi hs
 have hbit:∀ (i i':Nat) (x:aH),sl[i]? =some x->(∀ e ∈ x.after,D e=true)->((Cv [] (sl.map (·.after))).getD i 0).testBit i'=true->D i'=true:=fun i i' x hx hxe hb=>by
  rcases Nat.lt_or_ge i (Cv [] (sl.map (·.after))).length with h1|h1
  ·refine hbef i _ (by rw [List.getD_eq_getElem?_getD,List.getElem?_eq_getElem h1];rfl) D hDc (fun af lV=> ?_) i' hb
   rw [List.getElem?_map,hx] at lV
   simp at lV
   subst lV
   exact hxe
  ·rw [List.getD_eq_getElem?_getD,List.getElem?_eq_none h1] at hb
   simp at hb
 have hlo:∀ i x,i<j->(sl.zip rs)[i]? =some x->D i=true\/vC (x.1,foot x.2) (o,foot r)=true:=fun i x hi hx=>by
  obtain ⟨h1,h2⟩:=hz i x hx
  rcases hp j _ (Lc j o r ho hr) i _ (by omega) (Lc i x.1 x.2 h1 h2) with h|h
  ·rw [Nat.zero_add] at h
   exact .inl (hbit j i o ho hjr h)
  ·exact .inr h
 have hhi:∀ i x,j<i->D i=true->(sl.zip rs)[i]? =some x->vC (o,foot r) (x.1,foot x.2)=true:=fun i x hi hd hx=>by
  obtain ⟨h1,h2⟩:=hz i x hx
  rcases hp i _ (Lc i x.1 x.2 h1 h2) j _ (by omega) (Lc j o r ho hr) with h|h
  ·rw [Nat.zero_add] at h
   have:=hbit i j x.1 h1 (hD i x.1 hd h1) h
   rw [hj] at this;cases this
  ·exact h
 have hcase:∀ i x,(sl.zip rs)[i]? =some x->(i<j->vC (x.1,foot x.2) (o,foot r)=true->False)->(j<i->vC (o,foot r) (x.1,foot x.2)=true->False)->D i=decide (i<j):=fun i x hx h1 h2=>by
  rcases Nat.lt_trichotomy i j with hi|rfl|hi
  ·rw [decide_eq_true hi]
   exact (hlo i x hi hx).resolve_right (h1 hi)
  ·rw [decide_eq_false (by omega)];exact hj
  ·rw [decide_eq_false (by omega)]
   cases hd:D i with
   |false=>rfl
   |true=>exact (h2 hi (hhi i x hi hd hx)).elim
 refine ⟨fun k hk i x hx hm=>hcase i x hx (fun _ hc=> ?_) (fun _ hc=> ?_),fun b hb i x hx hm=>hcase i x hx (fun _ hc=> ?_) (fun _ hc=> ?_),fun i y hi hd hy k hk hk'=> ?_,fun i y hi hd hy k hk hk'=> ?_⟩
 ·exact ((CP hc).1 k (Lb hm)).1 hk
 ·exact (CP hc).2.1 k (Lb hm) hk
 ·exact ((CP hc).2.2.1 b hm).1 hb
 ·exact (CP hc).2.2.2 b hm hb
 ·exact ((CP (hhi i y hi hd hy)).1 k (Lb hk)).2 (Lb hk')
 ·exact ((CP (hhi i y hi hd hy)).2.2.1 k hk).2 hk'
theorem O0 {draw:Bool}:∀ (l:List Oper) (sl:List aH),kQ P ops draw l=some sl->l.length=sl.length/\∀ (j:Nat) (o:Oper),l[j]? =some o->∃ so,sl[j]? =some so/\lU P ops draw o=some so
 |[],sl,hs=>by
  simp only [kQ,Option.some.injEq] at hs
  subst hs
  exact ⟨rfl,fun j o h=>by simp at h⟩
 |o::l,sl,hs=>by
  obtain ⟨so,sl',rfl,h1,h2⟩:=YE hs
  obtain ⟨h3,h4⟩:=O0 l sl' h2
  refine ⟨by simp [h3],fun j o' h=> ?_⟩
  cases j with
  |zero=>simp at h;subst h;exact ⟨so,rfl,h1⟩
  |succ j=>simpa using h4 j o' (by simpa using h)
theorem afC {o:Oper} {so:aH} (hs:lU P ops true o=some so):
 so.after=o.after.toList.filterMap fun e=>match e.ground with| .textOnly _=>none| .gcOnly _=>none|_=>some e.on:=by
 unfold lU at hs
 split at hs
 ·split at hs
  ·cases hs;rfl
  ·split at hs
   ·cases hs;rfl
   ·cases hs
 ·cases hs
theorem YT {o:Oper} {so:aH} (hs:lU P ops true o=some so) (D:Nat->Prop):
 (∀ e ∈ o.after,Region.binds .any e=true->D e.on)↔∀ i ∈ so.after,D i:=by
 rw [afC hs]
 constructor
 ·intro h i hi
  rw [List.mem_filterMap] at hi
  obtain ⟨e,he,h1⟩:=hi
  have hem:e ∈ o.after:=by simpa using he
  have:Region.binds .any e=true/\e.on=i:=by
   unfold Region.binds
   split at h1<;>simp_all
  rw [<-this.2];exact h e hem this.1
 ·intro h e he hb
  refine h e.on ?_
  rw [List.mem_filterMap]
  refine ⟨e,by simpa using he,?_⟩
  unfold Region.binds at hb
  split at hb<;>simp_all
theorem YU:∀ (sl:List aH) {nt:Nat},tY nt sl=true->∀ (j:Nat) (o:aH),sl[j]? =some o->∀ d,o.dst=some d->d<nt
 |[],_,_,j,o,h=>by simp at h
 |o::l,nt,h,j,o',h'=>by
  simp only [tY,Bool.and_eq_true] at h
  cases j with
  |zero=>
   simp at h';subst h'
   intro d hd
   have:=h.1
   rw [hd] at this
   simpa using this
  |succ j=>exact YU l h.2 j o' (by simpa using h')
theorem afD (hs:kQ P ops true ops.toList=some sl) (hdst:tY C.nt sl=true) (hlen:rs.length=sl.length) (hok:rT sl (rs.map foot)=true)
 (hst:∀ j o r,sl[j]? =some o->rs[j]? =some r->La P (n+8*j) o (fJ uT (sl.zip rs) (fun i=>decide (i<j)) t0) (fJ uH (sl.zip rs) (fun i=>decide (i<j)) h0) r)
 {D:Nat->Bool} (hD:Closed sl D) {j:Nat} {o:Oper} {so:aH} (ho:ops[j]? =some o) (hso:sl[j]? =some so) (hs1:lU P ops true o=some so) (hj:D j=false) (hjr:∀ e ∈ so.after,D e=true)
 {a:Act} {w:World} (hI:Inv C sl rs n t0 h0 D a w) {next:Act->World->Prop} (hn:∀ a w,Inv C sl rs n t0 h0 (jO D j) a w->next a w):
 wpOp P ops K j next a w:=by
 obtain ⟨r,hr⟩:∃ r,rs[j]? =some r:=by
  have:j<rs.length:=by rw [hlen];exact (List.getElem?_eq_some_iff.1 hso).1
  exact ⟨_,List.getElem?_eq_getElem this⟩
 have hz:(sl.zip rs)[j]? =some (so,r):=by rw [List.getElem?_zip_eq_some];exact ⟨hso,hr⟩
 have hm:=meets hlen hok hD hso hr hj hjr
 obtain ⟨h1,h2,h3,h4⟩:=YD hs1
 obtain ⟨ρ,U,hS,hU⟩:=hI
 have hrt:∀ k ∈ uses so,get (fJ uT (sl.zip rs) D t0) k=get (fJ uT (sl.zip rs) (fun i=>decide (i<j)) t0) k:=fun k hk=>
  xJ _ _ _ _ _ k rfl fun i x hx hm'=>hm.tr k hk i x hx hm'
 have hrh:∀ b ∈ r.rd,get (fJ uH (sl.zip rs) D h0) b=get (fJ uH (sl.zip rs) (fun i=>decide (i<j)) h0) b:=fun b hb=>
  xJ _ _ _ _ _ b rfl fun i x hx hm'=>hm.hr b hb i x hx hm'
 have hdj:∀ d,o.dst=some d->d<C.nt:=fun d hd=>YU sl hdst j so hso d (by rw [h2];exact hd)
 have hend:∀ a' w' ρ' U',iW C ρ' U' (bP (fJ uT (sl.zip rs) D t0) so.dst r.val) (r.upd++fJ uH (sl.zip rs) D h0) a' w'->(∀ b,U' b->U b\/(n+8*j<=b/\b<n+8*j+8))->next a' w':=
  fun a' w' ρ' U' hS' jN=>hn a' w' ⟨ρ',U',hS'.ext (fun k=>by rw [OY];exact YM hz hj hm.tw k) (fun b=>YM hz hj hm.hw b),fun b hb=>by
   rcases jN b hb with h|h
   ·rcases hU b h with h|⟨i,hi,h⟩
    ·exact .inl h
    ·exact .inr ⟨i,by simp [jO,hi],h⟩
   ·exact .inr ⟨j,by simp [jO],(List.getElem?_eq_some_iff.1 hso).1,h⟩⟩
 have hfr:∀ b,U b->¬ (n+8*j<=b/\b<n+8*j+8):=fun b hb hh=>by
  rcases hU b hb with h|⟨i,hi,h⟩
  ·omega
  ·have:i=j:=by omega
   subst this
   rw [hj] at hi;cases hi
 have hact:K9 P (n+8*j) so (fJ uT (sl.zip rs) (fun i=>decide (i<j)) t0) (fJ uH (sl.zip rs) (fun i=>decide (i<j)) h0) r->
  (∀ k ∈ tT (tQ so.op),k ∈ uses so)->o.wp P a w next K:=fun hA hu=>by
  have:=hA _ _ (fun k hk=>hrt k (hu k hk)) hrh (fun t' h'=>t'=bP (fJ uT (sl.zip rs) D t0) so.dst r.val/\h'=r.upd++fJ uH (sl.zip rs) D h0) ⟨rfl,rfl⟩
  obtain ⟨dst,op,gd,af⟩:=so
  simp only at h1 h2
  subst h2
  refine YB h1 hS hfr hdj this fun t' h' a' w' ρ' U' hS' jN hQ=> ?_
  obtain ⟨rfl,rfl⟩:=hQ
  exact hend a' w' ρ' U' hS' jN
 have CK:r=Rec.skip->next (a.put o.dst undef) w:=fun e=>by
  refine hend _ _ ρ U ?_ fun b hb=> .inl hb
  subst e
  have:=hS.skip (dst:=o.dst) hdj
  rw [h2]
  exact this
 unfold wpOp
 rw [ho]
 simp only
 rcases hst j so r hso hr with ⟨hg,hA⟩|⟨g,want,hg,hh⟩
 ·have hg':=h3.1 hg
  have:Region.wanted o (yielded ops a.tmps)=true:=by simp [Region.wanted,hg']
  rw [if_pos this]
  exact .inl (hact hA (fun k hk=>by unfold uses;rw [hg];exact hk))
 ·obtain ⟨j',hj',hjd⟩:=h4 g want hg
  have hgu:g ∈ uses so:=by unfold uses;rw [hg];exact List.mem_cons_self ..
  have hgt:=hrt g hgu
  rcases hh with ⟨hb,hA⟩|⟨e,hb|⟨xs,hb⟩⟩
  ·rw [hb] at hgt
   obtain ⟨u,hu,hv⟩:=hS.tm g _ hgt
   have:=hv.dG
   subst this
   rw [OT hj' hjd hu]
   simp only [beq_self_eq_true,if_true]
   exact .inl (hact hA (fun k hk=>by unfold uses;rw [hg];exact List.mem_cons_of_mem _ hk))
  ·rw [hb] at hgt
   obtain ⟨u,hu,hv⟩:=hS.tm g _ hgt
   have:=hv.dG
   subst this
   rw [OT hj' hjd hu]
   have:((!want)==want)=false:=by cases want<;>rfl
   rw [this]
   exact CK e
  ·rw [hb] at hgt
   obtain ⟨u,hu,hv⟩:=hS.tm g _ hgt
   have:=hv.dG
   subst this
   rw [YF hj' hjd hu]
   exact CK e
theorem YV {D:Nat->Bool} {j:Nat}:∀ (l:List Nat),j ∉ l->l.countP (fun i=> !(jO D j i))=l.countP (fun i=> !(D i))
 |[],_=>rfl
 |x::l,h=>by
  simp only [List.mem_cons,not_or] at h
  have e:jO D j x=D x:=by simp [jO,Ne.symm h.1]
  rw [List.countP_cons,List.countP_cons,YV l h.2,e]
theorem YW {D:Nat->Bool} {j:Nat} (hj:D j=false):∀ (l:List Nat),l.Nodup->j ∈ l->l.countP (fun i=> !(jO D j i))+1=l.countP (fun i=> !(D i))
 |[],_,h=>by simp at h
 |x::l,hn,h=>by
  rw [List.nodup_cons] at hn
  rcases List.mem_cons.1 h with rfl|h
  ·rw [List.countP_cons,List.countP_cons,YV l hn.1]
   simp [jO,hj]
  ·have hx:x≠j:=fun e=>hn.1 (e▸h)
   have e:jO D j x=D x:=by simp [jO,hx]
   have:=YW hj l hn.2 h
   rw [List.countP_cons,List.countP_cons,e]
   omega
def ko (listed:Array Bool):Nat->Bool:=fun i=>listed.getD i false
theorem afF {listed:Array Bool} {j:Nat} (hj:j<listed.size):ko (listed.setIfInBounds j true)=jO (ko listed) j:=by
 funext i
 unfold ko jO
 by_cases e:i=j
 ·subst e;simp [hj]
 ·rw [getD_set_ne false (Ne.symm e)]
  have:(i==j)=false:=by simp [e]
  rw [this,Bool.or_false]
theorem O1 {listed:Array Bool} {j:Nat} (hj:j<listed.size):listed.getD j true=listed.getD j false:=by
 simp [hj]
theorem afG (hs:kQ P ops true ops.toList=some sl) (hdst:tY C.nt sl=true) (hlen:rs.length=sl.length) (hok:rT sl (rs.map foot)=true)
 (hst:∀ j o r,sl[j]? =some o->rs[j]? =some r->La P (n+8*j) o (fJ uT (sl.zip rs) (fun i=>decide (i<j)) t0) (fJ uH (sl.zip rs) (fun i=>decide (i<j)) h0) r)
 (hend:∀ D a w,(∀ i,i<ops.size->D i=true)->Inv C sl rs n t0 h0 D a w->K .normal a w):
 ∀ (fuel:Nat) (listed:Array Bool) (a:Act) (w:World),listed.size=ops.size->Closed sl (ko listed)->(List.range ops.size).countP (fun i=> !(ko listed i))<=fuel->
  Inv C sl rs n t0 h0 (ko listed) a w->wpAny P .any ops K fuel listed a w:=by
 obtain ⟨hl,hget⟩:=O0 ops.toList sl hs
 have afH:Cx 0 sl=true:=by
  simp only [rT,Bool.and_eq_true] at hok
  exact hok.1
 have afI:∀ (listed:Array Bool) (j:Nat) (o:Oper) (so:aH),listed.size=ops.size->ops[j]? =some o->sl[j]? =some so->lU P ops true o=some so->ko listed j=false->
  (∀ e ∈ so.after,ko listed e=true)->j ∈ Region.ready .any ops listed:=fun listed j o so hsz ho hso h1 hj he=>by
  have hlt:j<ops.size:=(Array.getElem?_eq_some_iff.1 ho).1
  rw [mem_ready]
  refine ⟨by rw [O1 (by omega)];exact hj,o,ho,?_⟩
  exact (YT h1 fun i=>ko listed i=true).2 he
 have hall:∀ (listed:Array Bool),listed.size=ops.size->Region.ready .any ops listed=[]->∀ i,i<ops.size->ko listed i=true:=fun listed hsz hr i=>by
  induction i using Nat.strongRecOn with
  |_ i ih=>
   intro hi
   apply Classical.byContradiction
   intro hne
   have hne':ko listed i=false:=by simpa using hne
   obtain ⟨so,hso,h1⟩:=hget i ops[i] (by simp [hi])
   have:=afI listed i ops[i] so hsz (by simp [hi]) hso h1 hne' fun e he=>by
    have:=OW sl 0 afH i so hso e he
    exact ih e (by omega) (by omega)
   rw [hr] at this
   simp at this
 intro fuel
 induction fuel with
 |zero=>
  intro listed a w hsz hc hf hI
  have hdone:∀ i,i<ops.size->ko listed i=true:=fun i hi=>by
   have h0:(List.range ops.size).countP (fun i=> !(ko listed i))=0:=by omega
   rw [List.countP_eq_zero] at h0
   have:=h0 i (by simpa using hi)
   simpa using this
  refine ⟨?_,hend _ a w hdone hI⟩
  apply List.eq_nil_iff_forall_not_mem.2
  intro j hj
  rw [mem_ready] at hj
  obtain ⟨h1,o,ho,_⟩:=hj
  have hlt:j<ops.size:=(Array.getElem?_eq_some_iff.1 ho).1
  rw [O1 (by omega)] at h1
  have:=hdone j hlt
  unfold ko at this
  rw [h1] at this;cases this
 |succ fuel ih=>
  intro listed a w hsz hc hf hI
  refine ⟨fun hr=>hend _ a w (hall listed hsz hr) hI,fun j hj=> ?_⟩
  rw [mem_ready] at hj
  obtain ⟨h1,o,ho,hb⟩:=hj
  have hlt:j<ops.size:=(Array.getElem?_eq_some_iff.1 ho).1
  obtain ⟨so,hso,hs1⟩:=hget j o (by simpa using ho)
  have hjr:=(YT hs1 fun i=>ko listed i=true).1 hb
  have hj0:ko listed j=false:=by rw [O1 (by omega)] at h1;exact h1
  refine afD hs hdst hlen hok hst hc ho hso hs1 hj0 hjr hI fun a' w' hI'=> ?_
  have e:=afF (listed:=listed) (j:=j) (by omega)
  refine ih _ a' w' (by simp [hsz]) ?_ ?_ (by rw [e];exact hI')
  ·rw [e]
   intro i o' hi ho' x hx
   unfold jO at hi
   simp only [Bool.or_eq_true,beq_iff_eq] at hi
   rcases hi with hi|rfl
   ·simp [jO,hc i o' hi ho' x hx]
   ·rw [hso] at ho';cases ho'
    simp [jO,hjr x hx]
  ·rw [e]
   have:=YW hj0 (List.range ops.size) List.nodup_range (by simpa using hlt)
   omega
theorem iW.world {ρ:Nat->Loc} {U:Nat->Prop} {t:List (Nat×AV)} {h:List (Nat×Ob)} {a:Act} {w w':World} (hS:iW C ρ U t h a w) (e1:w'.heap=w.heap) (e2:w'.os=w.os)
 (e3:w'.tape=w.tape) (e4:w'.output=w.output):iW C ρ U t h a w':=by
 obtain ⟨h1,h2⟩:=hS.hr.world e1 e2 e3 e4
 refine ⟨h1,fun k x hk=> ?_,hS.defers,hS.sz⟩
 obtain ⟨u,hu,hv⟩:=hS.tm k x hk
 exact ⟨u,hu,h2 _ _ hv⟩
theorem afJ (hm:P.follows .mixedOrders=true) (hs:kQ P ops true ops.toList=some sl) (hdst:tY C.nt sl=true) {ρ:Nat->Loc} {U:Nat->Prop} {a:Act} {w:World}
 (hS:iW C ρ U t0 h0 a w) (hU:∀ b,U b->b<n) {Q:List (Nat×AV)->List (Nat×Ob)->Prop} (hw:KU P n sl t0 h0 Q) {id:Nat}
 (hend:∀ t h a' w' ρ' U',iW C ρ' U' t h a' w'->(∀ b,U' b->b<n+8*sl.length)->Q t h->K .normal a' w'):(Code.region id ops true).wp P K a w:=by
 obtain ⟨rs,hlen,⟨hok,hQ⟩,hst⟩:=YR sl n [] t0 h0 _ hw
 simp only [List.append_nil,List.reverse_reverse] at hok
 have hl:=(O0 ops.toList sl hs).1
 simp only [Array.length_toList] at hl
 have hD0:ko (Array.replicate ops.size false)=fun _=>false:=by
  funext i
  unfold ko
  rcases Nat.lt_or_ge i ops.size with h|h<;>simp [h]
 refine wp_region_any hm (afG (n:=n) (t0:=t0) (h0:=h0) hs hdst hlen hok hst ?_ ops.size _ a _ (by simp) ?_ ?_ ?_)
 ·intro D a' w' hD hI
  obtain ⟨ρ',U',hS',jN⟩:=hI
  have hz:∀ i (x:aH×Rec),(sl.zip rs)[i]? =some x->D i=true:=fun i x hx=>hD i (by
   rw [List.getElem?_zip_eq_some] at hx
   have:=(List.getElem?_eq_some_iff.1 hx.1).1
   omega)
  refine hend _ _ a' w' ρ' U' (hS'.ext (fun k=> ?_) (fun b=> ?_)) (fun b hb=> ?_) hQ
  ·exact xJ _ _ _ _ _ k rfl fun i x hx _=>(hz i x hx).symm
  ·exact xJ _ _ _ _ _ b rfl fun i x hx _=>(hz i x hx).symm
  ·rcases jN b hb with h|⟨i,hi,h⟩
   ·omega
   ·omega
 ·rw [hD0];intro i o hi;cases hi
 ·exact Nat.le_trans List.countP_le_length (by simp)
 ·rw [hD0]
  exact ⟨ρ,U,by rw [EC,EC];exact hS.world rfl rfl rfl rfl,fun b hb=> .inl (hU b hb)⟩
end draw
end Go.Eng
namespace Go.Eng
open Go
theorem least {p:Nat->Prop} (h:∃ n,p n):∃ n,p n/\∀ m,p m->n<=m:=by
 apply Classical.byContradiction
 intro hno
 have:∀ n,¬ p n:=fun n=>by
  induction n using Nat.strongRecOn with
  |_ n ih=>
   intro hp
   refine hno ⟨n,hp,fun m hm=> ?_⟩
   rcases Nat.lt_or_ge m n with h1|h1
   ·exact absurd hm (ih m h1)
   ·exact h1
 obtain ⟨n,hn⟩:=h
 exact this n hn
section
variable {P:Program} {C:Ctx}
def At (C:Ctx) (s:St) (a:Act) (w:World):Prop:=∃ ρ U,iW C ρ U s.t s.h a w/\∀ b,U b->b<s.n
theorem Wk.at {s s':St} (h:Wk s s') {a:Act} {w:World} (hs:At C s a w):At C s' a w:=by
 obtain ⟨ρ,U,hS,hU⟩:=hs
 obtain ⟨ρ',U',hR,jN⟩:=h C ρ U a w ⟨hS.hr,hS.defers,hS.sz,hS.tm⟩ hU
 exact ⟨ρ',U',⟨hR.hr,hR.tm,hR.defers,hR.sz⟩,jN⟩
noncomputable def CQ {α:Type} (C:Ctx) (S:α->St) (μ:α->Nat) (a:Act) (w:World):Nat:=by
 classical
 exact if h:∃ n,∃ x,μ x=n/\At C (S x) a w then Classical.choose (least h) else 0
theorem Ld {α:Type} {S:α->St} {μ:α->Nat} {a:Act} {w:World} {x:α} (h:At C (S x) a w):
 CQ C S μ a w<=μ x/\∃ y,μ y=CQ C S μ a w/\At C (S y) a w:=by
 have hx:∃ n,∃ x,μ x=n/\At C (S x) a w:=⟨_,x,rfl,h⟩
 have e:CQ C S μ a w=Classical.choose (least hx):=by
  unfold CQ
  rw [dif_pos hx]
 obtain ⟨h1,h2⟩:=Classical.choose_spec (least hx)
 rw [e]
 exact ⟨h2 _ ⟨x,rfl,h⟩,h1⟩
theorem vH (hm:P.follows .mixedOrders=true) (c:Code):∀ (sc:eG),fM P c=some sc->iV C.nt sc=true->
 ∀ (Q:Exit->St->Prop) (K:Exit->Act->World->Prop) (s:St) (a:Act) (w:World),At C s a w->iq P sc Q s->
  (∀ e s' a' w',At C s' a' w'->Q e s'->K e a' w')->c.wp P K a w:=by
 induction c with
 |skip=>
  intro sc hs _ Q K s a w hA hw hK
  cases hs
  exact wp_skip (hK _ _ _ _ hA hw)
 |region id ops draw=>
  intro sc hs hok Q K s a w hA hw hK
  simp only [fM] at hs
  split at hs
  ·rename_i l hl
   cases hs
   simp only [iV] at hok
   obtain ⟨ρ,U,hS,hU⟩:=hA
   simp only [iq] at hw
   cases draw with
   |true=>
    simp only [if_true] at hw
    exact afJ hm hl hok hS hU hw fun t h a' w' ρ' U' hS' jN hQ=>hK _ ⟨_,t,h⟩ a' w' ⟨ρ',U',hS',jN⟩ hQ
   |false=>
    simp only [Bool.false_eq_true,if_false] at hw
    exact wp_region_list (aft ops.toList l s.n s.t s.h a w ρ U hl hok hS hU hw fun t h a' w' ρ' U' hS' jN hQ=>hK _ ⟨_,t,h⟩ a' w' ⟨ρ',U',hS',jN⟩ hQ)
  ·cases hs
 |seq x y xK ihy=>
  intro sc hs hok Q K s a w hA hw hK
  simp only [fM] at hs
  split at hs
  ·rename_i x' hx
   split at hs
   ·rename_i y' hy
    cases hs
    simp only [iV,Bool.and_eq_true] at hok
    refine wp_seq (xK x' hx hok.1 _ _ s a w hA hw fun e s' a' w' hA' hQ=> ?_)
    cases e with
    |normal=>exact ihy y' hy hok.2 Q K s' a' w' hA' hQ hK
    |exit i=>exact hK _ _ _ _ hA' hQ
    |goto l=>exact hK _ _ _ _ hA' hQ
    |ret=>exact hK _ _ _ _ hA' hQ
    |panic ch=>exact hK _ _ _ _ hA' hQ
    |outgrown=>exact hK _ _ _ _ hA' hQ
   ·cases hs
  ·cases hs
 |cond c x y xK ihy=>
  intro sc hs hok Q K s a w hA hw hK
  simp only [fM] at hs
  split at hs
  ·rename_i x' hx
   split at hs
   ·rename_i y' hy
    cases hs
    simp only [iV,Bool.and_eq_true] at hok
    simp only [iq] at hw
    unfold qC at hw
    split at hw
    ·rename_i b hb
     have kR:=hA
     obtain ⟨ρ,U,hS,hU⟩:=hA
     have hc:=(bM hS.tm hb).dG
     exact wp_cond_split hc (fun hb=>xK x' hx hok.1 Q K s a w kR (hw.1 hb) hK) (fun hb=>ihy y' hy hok.2 Q K s a w kR (hw.2 hb) hK)
    ·exact hw.elim
    ·exact hw.elim
   ·cases hs
  ·cases hs
 |block id c ih=>
  intro sc hs hok Q K s a w hA hw hK
  simp only [fM] at hs
  split at hs
  ·rename_i c' hc
   cases hs
   simp only [iV] at hok
   refine wp_block (ih c' hc hok _ _ s a w hA hw fun e s' a' w' hA' hQ=> ?_)
   cases e with
   |exit i=>
    simp only [En] at hQ
    simp only [Exit.inBlock]
    split
    ·rename_i h;rw [if_pos h] at hQ;exact hK _ _ _ _ hA' hQ
    ·rename_i h;rw [if_neg h] at hQ;exact hK _ _ _ _ hA' hQ
   |normal=>exact hK _ _ _ _ hA' hQ
   |goto l=>exact hK _ _ _ _ hA' hQ
   |ret=>exact hK _ _ _ _ hA' hQ
   |panic ch=>exact hK _ _ _ _ hA' hQ
   |outgrown=>exact hK _ _ _ _ hA' hQ
  ·cases hs
 |loop c ih=>
  intro sc hs hok Q K s a w hA hw hK
  simp only [fM] at hs
  split at hs
  ·rename_i c' hc
   cases hs
   simp only [iV] at hok
   obtain ⟨α,S,μ,a0,hW,hb⟩:=hw
   refine wp_loop (fun a w=>∃ x,At C (S x) a w) (CQ C S μ) ⟨a0,hW.at hA⟩ fun a w hI=> ?_
   obtain ⟨x0,hx0⟩:=hI
   obtain ⟨_,x,hx,hA'⟩:=Ld (μ:=μ) hx0
   refine ih c' hc hok _ _ (S x) a w hA' (hb x) fun e s' a' w' nQ hQ=> ?_
   cases e with
   |normal=>
    obtain ⟨x',hlt,hW'⟩:=hQ
    have h1:=hW'.at nQ
    refine ⟨⟨x',h1⟩,?_⟩
    have:=(Ld (μ:=μ) h1).1
    omega
   |exit i=>exact hK _ _ _ _ nQ hQ
   |goto l=>exact hK _ _ _ _ nQ hQ
   |ret=>exact hK _ _ _ _ nQ hQ
   |panic ch=>exact hK _ _ _ _ nQ hQ
   |outgrown=>exact hK _ _ _ _ nQ hQ
  ·cases hs
 |exit id=>
  intro sc hs _ Q K s a w hA hw hK
  cases hs
  exact wp_exit (hK _ _ _ _ hA hw)
 |ret=>
  intro sc hs _ Q K s a w hA hw hK
  cases hs
  exact wp_ret (hK _ _ _ _ hA hw)
 |_=>intro sc hs;simp [fM] at hs
end
end Go.Eng
namespace Go.Eng
open Go
section
variable (h:List (Nat×Ob)) (S:List (Nat×Nat)) (N:List Nat)
mutual
def rv:AV->AV->Prop
 | .own k sz off len,y=>match y with
  | .own b sz' off' len'=>get S k=some b/\sz=sz'/\off=off'/\len=len'
  | .v (.slice none 0 0)=>k ∈ N/\get S k=none/\len=0
  |_=>False
 | .ptr k j,y=>match y with
  | .ptr b j'=>get S k=some b/\j=j'
  |_=>False
 | .rp k sz i j,y=>match y with
  | .rp b sz' i' j'=>get S k=some b/\sz=sz'/\i=i'/\j=j'
  |_=>False
 | .mp k,y=>match y with
  | .mp b=>get S k=some b
  |_=>False
 | .sl sz ys,y=>match y with
  | .sl sz' xs=>sz=sz'/\ys=xs
  | .v (.slice none 0 0)=>ys=[]
  | .own b sz' off len=>b ∉ S.map Prod.snd/\sz=sz'/\match get h b with
   |some (.row _ dR xs)=>sz=dR/\off+len<=xs.length/\ys=(xs.drop off).take len
   |_=>False
  |_=>False
 | .dI cs j,y=>match y with
  | .dI cs' j'=>cs=cs'/\j=j'
  | .rp b sz' i j'=>b ∉ S.map Prod.snd/\j=j'/\match get h b with
   |some (.row _ dR xs)=>sz'=dR/\i<xs.length/\cs=nth xs i
   |_=>False
  |_=>False
 | .agg ys,y=>match y with
  | .agg xs=>au ys xs
  |_=>False
 | .aG ys,y=>match y with
  | .aG xs=>au ys xs
  |_=>False
 | .fn f ys,y=>match y with
  | .fn g xs=>f=g/\au ys xs
  |_=>False
 | .v a,y=>y= .v a
def au:List AV->List AV->Prop
 |[],[]=>True
 |y::ys,x::xs=>rv y x/\au ys xs
 |_,_=>False
end
def nR:List (Value×AV)->List (Value×AV)->Prop
 |[],[]=>True
 |(k,y)::l,(k',x)::l'=>k=k'/\rv h S N y x/\nR l l'
 |_,_=>False
def bK:Ob->Ob->Prop
 | .box ys,.box xs=>au h S N ys xs
 | .row e sz ys,.row e' sz' xs=>e=e'/\sz=sz'/\ys=xs
 | .map ys,.map xs=>nR h S N ys xs
 |_,_=>False
def cO (h':List (Nat×Ob)):List (Nat×Nat)->Prop
 |[]=>True
 |(k,b)::l=>(match get h' k,get h b with
  |some y,some x=>bK h S N y x
  |_,_=>False)/\cO h' l
def gY (h':List (Nat×Ob)):List Nat->Prop
 |[]=>True
 |k::l=>(match get h' k with
  |some (.row _ _ xs)=>xs=[]
  |_=>False)/\gY h' l
def d9 (t:List (Nat×AV)):List (Nat×AV)->Prop
 |[]=>True
 |(k,y)::l=>(match get t k with
  |some x=>rv h S N y x
  |none=>False)/\d9 t l
def nS (b:Nat):Bool:=match get h b with
 |some (.box _)=>get S b==some b
 |_=>true
def iD (h':List (Nat×Ob)):Bool:=
 decide ((S.map Prod.snd).Nodup)&&(N.all (fun k=> !(S.map Prod.fst).contains k)&&((h'.map Prod.fst).all (fun k=>(S.map Prod.fst).contains k||N.contains k)&&
  (nS h S 0&&(nS h S 1&&(nS h S 2&&nS h S 3)))))
end
theorem get_mem {α:Type} {l:List (Nat×α)} {k:Nat} {x:α} (h:get l k=some x):(k,x) ∈ l:=by
 induction l with
 |nil=>simp [get] at h
 |cons p l ih=>
  obtain ⟨a,b⟩:=p
  simp only [get] at h
  split at h
  ·rename_i e;cases h;subst e;exact List.mem_cons_self ..
  ·exact List.mem_cons_of_mem _ (ih h)
theorem vI {α:Type} {l:List (Nat×α)} {k:Nat} (h:k ∈ l.map Prod.fst):∃ x,get l k=some x:=by
 induction l with
 |nil=>simp at h
 |cons p l ih=>
  obtain ⟨a,b⟩:=p
  simp only [List.map_cons,List.mem_cons] at h
  simp only [get]
  by_cases e:a=k
  ·exact ⟨b,by rw [if_pos e]⟩
  ·rw [if_neg e];exact ih (h.resolve_left fun h=>e h.symm)
section
variable {C:Ctx} {ρ:Nat->Loc} {U:Nat->Prop} {h h':List (Nat×Ob)} {S:List (Nat×Nat)} {N:List Nat} {w:World}
def dK (ρ:Nat->Loc) (S:List (Nat×Nat)) (N:List Nat) (k:Nat):Loc:=match get S k with
 |some b=>ρ b
 |none=>if k ∈ N then .nil else .dead
def jy (S:List (Nat×Nat)) (N:List Nat) (k:Nat):Prop:=k ∈ S.map Prod.fst\/k ∈ N
theorem EF {k b:Nat} (h:get S k=some b):jy S N k:= .inl (List.mem_map.2 ⟨_,get_mem h,rfl⟩)
theorem xL {k b:Nat} (h:get S k=some b):dK ρ S N k=ρ b:=by simp [dK,h]
theorem O3 {g:Nat} (ho:jv (dK ρ S N) g):jv ρ g/\∃ k b o n,get S k=some b/\ρ b= .at g o n:=by
 obtain ⟨k,o,n,hk⟩:=ho
 unfold dK at hk
 split at hk
 ·rename_i b hb
  exact ⟨⟨b,o,n,hk⟩,k,b,o,n,hb,hk⟩
 ·split at hk<;>cases hk
theorem YX {g:Nat} (hg:aP C ρ w g):aP C (dK ρ S N) w g:=⟨hg.1,hg.2.1,fun ho=>hg.2.2 (O3 ho).1⟩
theorem iX:∀ (ys xs:List AV),au h S N ys xs->ys.length=xs.length
 |[],[],_=>rfl
 |_::ys,_::xs,h=>by simp only [au] at h;simp [iX ys xs h.2]
 |[],_::_,h=>by simp [au] at h
 |_::_,[],h=>by simp [au] at h
theorem iY:∀ (ys xs:List AV),au h S N ys xs->∀ (i:Nat) (y:AV),ys[i]? =some y->∃ x,xs[i]? =some x/\rv h S N y x
 |[],[],_,i,y,hy=>by simp at hy
 |y::ys,x::xs,h,0,z,hz=>by
  simp only [au] at h
  simp at hz;subst hz
  exact ⟨x,rfl,h.1⟩
 |y::ys,x::xs,h,i+1,z,hz=>by
  simp only [au] at h
  simpa using iY ys xs h.2 i z (by simpa using hz)
 |[],_::_,h,_,_,_=>by simp [au] at h
 |_::_,[],h,_,_,_=>by simp [au] at h
theorem VP.new {x:AV} {u:Value} (hv:VP w (aP C ρ w) x u):VP w (aP C (dK ρ S N) w) x u:=hv.mono (fun _=>YX) (fun _ _=>rfl)
theorem YZ (hr:HR C ρ U h w) {b g o n:Nat} {e:TypeId} {sz:Nat} {xs:List (List AV)} (hb:get h b=some (.row e sz xs)) (hl:ρ b= .at g o n) (hS:b ∉ S.map Prod.snd):
 aP C (dK ρ S N) w g:=by
 obtain ⟨h1,h2⟩:=hr.dJ g ⟨b,o,n,hl⟩
 refine ⟨?_,h2,fun ho=> ?_⟩
 ·rcases h1 with h1|h1
  ·obtain ⟨b',o',n',hb'⟩:=C.Cs g h1
   obtain ⟨h3,_,cs,h4⟩:=hr.fix b' _ hb'
   have:=hr.inj b b' g o n o' n' hl h3
   subst this
   rw [hb] at h4;cases h4
  ·exact .inr h1
 ·obtain ⟨_,k,b',o',n',hk,hb'⟩:=O3 ho
  have:=hr.inj b b' g o n o' n' hl hb'
  subst this
  exact hS (List.mem_map.2 ⟨_,get_mem hk,rfl⟩)
theorem Y0 {b g o n:Nat} {e:TypeId} {sz:Nat} {xs:List (List AV)} (hr:HR C ρ U h w) (hb:get h b=some (.row e sz xs)) (hl:ρ b= .at g o n):
 (∀ (k:Nat) (x:List AV),xs[k]? =some x->x.length=sz)/\∃ f:Nat->Value,∀ (k:Nat) (x:List AV) (j:Nat) (c:AV),xs[k]? =some x->x[j]? =some c->
  w.cell? ⟨g,o+(k*sz+j),none⟩=some (f (k*sz+j))/\(f (k*sz+j)).oneCell'=true/\VP w (aP C ρ w) c (f (k*sz+j)):=by
 obtain ⟨_,ho⟩:=hr.hp b _ hb
 rw [hl] at ho
 rcases ho with ⟨h1,_⟩|⟨g',o',n',cells,h1,h2,h3,h4,h5,h6⟩
 ·cases h1
 ·cases h1
  refine ⟨h5,fun i=>(cells[o+i]?).getD undef,fun k x j c hk hj=> ?_⟩
  obtain ⟨u,hu,h7,h8⟩:=h6 k x j c hk hj
  simp only [hu,Option.getD_some]
  exact ⟨by simp [World.cell?,h2,hu],h7,h8⟩
theorem afK (hr:HR C ρ U h w) {x:AV} {u:Value} (hv:VP w (aP C ρ w) x u):∀ x',rv h S N x' x->VR w (aP C (dK ρ S N) w) (dK ρ S N) (jy S N) x' u:=by
 induction hv with
 |v a=>
  intro x' hx
  cases x' with
  |v b=>
   simp only [rv] at hx
   cases hx;exact .p (.v _)
  |sl sz ys=>
   unfold rv at hx
   split at hx
   ·rename_i e;cases e
   ·rename_i e;cases e;subst hx;exact .p .gH
   ·rename_i e;cases e
   ·exact hx.elim
  |own k sz off len=>
   unfold rv at hx
   split at hx
   ·rename_i e;cases e
   ·rename_i e;cases e
    obtain ⟨hN,hS,rfl⟩:=hx
    refine .own (.inr hN) ⟨⟨_,_,_,rfl⟩,?_⟩
    have:dK ρ S N k= .nil:=by simp [dK,hS,hN]
    rw [this];exact ⟨rfl,rfl⟩
   ·exact hx.elim
  |_=>simp only [rv] at hx
 |agg hl hc ih=>
  intro x' hx
  cases x'<;>simp only [rv] at hx<;>try (cases hx;done)
  have h1:=iX _ _ hx
  refine .agg (by omega) fun i c u hi hu=> ?_
  obtain ⟨x,h2,h3⟩:=iY _ _ hx i c hi
  exact ih i x u h2 hu c h3
 |aG hl hc ih=>
  intro x' hx
  cases x'<;>simp only [rv] at hx<;>try (cases hx;done)
  have h1:=iX _ _ hx
  refine .aG (by omega) fun i c u hi hu=> ?_
  obtain ⟨x,h2,h3⟩:=iY _ _ hx i c hi
  exact ih i x u h2 hu c h3
 |fn hf hl hc ih=>
  intro x' hx
  cases x'<;>simp only [rv] at hx<;>try (cases hx;done)
  obtain ⟨rfl,hx⟩:=hx
  have h1:=iX _ _ hx
  refine .fn hf (by omega) fun i c u hi hu=> ?_
  obtain ⟨x,h2,h3⟩:=iY _ _ hx i c hi
  exact ih i x u h2 hu c h3
 |mI h hc ih=>
  intro x' hx
  cases x'<;>simp only [rv] at hx<;>try (cases hx;done)
  obtain ⟨rfl,hx⟩:=hx
  rename_i ys
  match ys,hx with
  |[y],hx=>
   simp only [au,and_true] at hx
   have h2:=ih y hx
   cases y<;>simp only [rv] at hx<;>try (cases hx;done)
   obtain ⟨rfl,rfl⟩:=hx
   exact .p (.mI h2.rJ hc)
  |[],hx=>simp only [au] at hx
  |_::_::_,hx=>simp only [au,and_false] at hx
 |gH=>
  intro x' hx
  cases x'<;>simp only [rv] at hx<;>try (cases hx;done)
  obtain ⟨rfl,rfl⟩:=hx
  exact .p .gH
 |sl a n cap f hn hcap hk hl hc hv ih=>
  intro x' hx
  cases x'<;>simp only [rv] at hx<;>try (cases hx;done)
  obtain ⟨rfl,rfl⟩:=hx
  exact .p (VP.new (.sl a n cap f hn hcap hk hl hc hv))
 |dI g o f hk hc hv ih=>
  intro x' hx
  cases x'<;>simp only [rv] at hx<;>try (cases hx;done)
  obtain ⟨rfl,rfl⟩:=hx
  exact .p (VP.new (.dI g o f hk hc hv))
theorem kS (hr:HR C ρ U h w) {x:AV} {u:Value} (hv:VR w (aP C ρ w) ρ U x u):∀ x',rv h S N x' x->VR w (aP C (dK ρ S N) w) (dK ρ S N) (jy S N) x' u:=by
 induction hv with
 |p hv=>exact afK hr hv
 |agg hl hc ih=>
  intro x' hx
  cases x'<;>simp only [rv] at hx<;>try (cases hx;done)
  have h1:=iX _ _ hx
  refine .agg (by omega) fun i c u hi hu=> ?_
  obtain ⟨x,h2,h3⟩:=iY _ _ hx i c hi
  exact ih i x u h2 hu c h3
 |aG hl hc ih=>
  intro x' hx
  cases x'<;>simp only [rv] at hx<;>try (cases hx;done)
  have h1:=iX _ _ hx
  refine .aG (by omega) fun i c u hi hu=> ?_
  obtain ⟨x,h2,h3⟩:=iY _ _ hx i c hi
  exact ih i x u h2 hu c h3
 |fn hf hl hc ih=>
  intro x' hx
  cases x'<;>simp only [rv] at hx<;>try (cases hx;done)
  obtain ⟨rfl,hx⟩:=hx
  have h1:=iX _ _ hx
  refine .fn hf (by omega) fun i c u hi hu=> ?_
  obtain ⟨x,h2,h3⟩:=iY _ _ hx i c hi
  exact ih i x u h2 hu c h3
 | @own b sz off len u hu ho=>
  intro x' hx
  cases x' with
  |own k sz' off' len'=>
   simp only [rv] at hx
   obtain ⟨h1,rfl,rfl,rfl⟩:=hx
   exact .own (EF h1) (by rw [xL h1];exact ho)
  |sl sz' ys=>
   simp only [rv] at hx
   obtain ⟨hS,rfl,hx⟩:=hx
   split at hx
   ·rename_i e dR xs hb
    obtain ⟨rfl,hle,rfl⟩:=hx
    obtain ⟨_,jM⟩:=hr.hp b _ hb
    obtain ⟨_,ho⟩:=ho
    cases hl:ρ b with
    |dead=>
     rw [hl] at jM
     rcases jM with ⟨h1,_⟩|⟨g,o,n,cells,h1,_⟩<;>cases h1
    |nil=>
     rw [hl] at ho
     obtain ⟨rfl,rfl⟩:=ho
     simp only [List.take_zero]
     exact .p .gH
    |«at» g o n=>
     rw [hl] at ho
     obtain ⟨h5,f,hf⟩:=Y0 hr hb hl
     have hok:=YZ (S:=S) (N:=N) hr hb hl hS
     have hlen:((xs.drop off).take len).length=len:=by simp;omega
     have hget:∀ (k:Nat) (x:List AV),((xs.drop off).take len)[k]? =some x->xs[off+k]? =some x:=fun k x hk=>by
      rw [List.getElem?_take] at hk
      split at hk
      ·rw [List.getElem?_drop] at hk;exact hk
      ·cases hk
     rcases ho with ⟨rfl,_,rfl|⟨a,rfl⟩⟩|⟨cap,h1,h2,rfl⟩
     ·simp only [List.take_zero]
      exact .p .gH
     ·simp only [List.take_zero]
      exact .p (.sl a 0 0 (fun _ _=>undef) rfl (Nat.le_refl _) (fun h=>absurd h (by simp)) (fun k e h=>by simp at h) (fun k e j c h=>by simp at h) (fun k e j c h=>by simp at h))
     ·refine .p (.sl ⟨g,o+off*sz',none⟩ len cap (fun k j=>f ((off+k)*sz'+j)) hlen.symm h1 (fun _=>⟨rfl,hok⟩) (fun k e hk=>h5 _ e (hget k e hk)) (fun k e j c hk hj=> ?_) (fun k e j c hk hj=> ?_))
      ·obtain ⟨h6,h7,_⟩:=hf _ e j c (hget k e hk) hj
       refine ⟨?_,h7⟩
       rw [<-h6]
       congr 2
       simp only [Nat.add_mul];omega
      ·exact (hf _ e j c (hget k e hk) hj).2.2.new
   ·exact hx.elim
  |_=>simp only [rv] at hx<;>cases hx
 | @ptr b j a hu ho=>
  intro x' hx
  cases x'<;>simp only [rv] at hx<;>try (cases hx;done)
  obtain ⟨h1,rfl⟩:=hx
  exact .ptr a (EF h1) (by rw [xL h1];exact ho)
 | @rp b sz k j a hu ho=>
  intro x' hx
  cases x' with
  |rp k' sz' i' j'=>
   simp only [rv] at hx
   obtain ⟨h1,rfl,rfl,rfl⟩:=hx
   exact .rp a (EF h1) (by rw [xL h1];exact ho)
  |dI cs j'=>
   simp only [rv] at hx
   obtain ⟨hS,rfl,hx⟩:=hx
   split at hx
   ·rename_i e dR xs hb
    obtain ⟨rfl,hlt,rfl⟩:=hx
    obtain ⟨_,jM⟩:=hr.hp b _ hb
    cases hl:ρ b with
    |dead=>
     rw [hl] at jM
     rcases jM with ⟨h1,_⟩|⟨g,o,n,cells,h1,_⟩<;>cases h1
    |nil=>
     rw [hl] at jM
     rcases jM with ⟨_,rfl⟩|⟨g,o,n,cells,h1,_⟩
     ·simp at hlt
     ·cases h1
    |«at» g o n=>
     obtain ⟨h5,f,hf⟩:=Y0 hr hb hl
     have hok:=YZ (S:=S) (N:=N) hr hb hl hS
     have hk:xs[k]? =some (nth xs k):=by simp [nth,hlt]
     have ha:=ho g o n hl
     subst ha
     have e1:o+(k*sz+j')=(o+k*sz)+j':=by omega
     rw [e1]
     refine .p (.dI g (o+k*sz) (fun i=>f (k*sz+i)) hok (fun i c hi=> ?_) (fun i c hi=> ?_))
     ·rw [<-(hf k _ i c hk hi).1]
      congr 2
      omega
     ·exact (hf k _ i c hk hi).2.2.new
   ·exact hx.elim
  |_=>simp only [rv] at hx<;>cases hx
 | @mp b r hu ho=>
  intro x' hx
  cases x'<;>simp only [rv] at hx<;>try (cases hx;done)
  exact .mp r (EF hx) (by rw [xL hx];exact ho)
theorem afL {h h':List (Nat×Ob)} (hS:iD h S N h'=true):(∀ k k' b,get S k=some b->get S k'=some b->k=k')/\(∀ k ∈ N,get S k=none)/\(∀ k o,get h' k=some o->k ∈ S.map Prod.fst\/k ∈ N)/\
 ∀ b,b<4->∀ cs,get h b=some (.box cs)->get S b=some b:=by
 simp only [iD,Bool.and_eq_true,decide_eq_true_eq,List.all_eq_true,Bool.not_eq_true',Bool.or_eq_true] at hS
 obtain ⟨h1,h2,h3,h4,h5,h6,h7⟩:=hS
 refine ⟨fun k k' b hk hk'=> ?_,fun k hk=> ?_,fun k o hk=> ?_,fun b hb cs hcs=> ?_⟩
 ·clear h2 h3 h4 h5 h6 h7
  induction S with
  |nil=>simp [get] at hk
  |cons p S ih=>
   obtain ⟨x,y⟩:=p
   simp only [List.map_cons,List.nodup_cons] at h1
   simp only [get] at hk hk'
   split at hk<;>split at hk'
   ·rename_i e1 e2;rw [<-e1,<-e2]
   ·cases hk
    exact absurd (List.mem_map.2 ⟨_,get_mem hk',rfl⟩) h1.1
   ·cases hk'
    exact absurd (List.mem_map.2 ⟨_,get_mem hk,rfl⟩) h1.1
   ·exact ih h1.2 hk hk'
 ·cases hg:get S k with
  |none=>rfl
  |some b=>
   have:=h2 k hk
   have hm:k ∈ S.map Prod.fst:=List.mem_map.2 ⟨_,get_mem hg,rfl⟩
   simp only [List.contains_iff_mem,List.contains_eq_mem,decide_eq_false_iff_not] at this
   exact absurd hm this
 ·have:=h3 k (List.mem_map.2 ⟨_,get_mem hk,rfl⟩)
  simpa using this
 ·have key:∀ b,nS h S b=true->∀ cs,get h b=some (.box cs)->get S b=some b:=fun b hb cs hcs=>by
   unfold nS at hb
   rw [hcs] at hb
   simpa using hb
  match b,hb with
  |0,_=>exact key 0 h4 cs hcs
  |1,_=>exact key 1 h5 cs hcs
  |2,_=>exact key 2 h6 cs hcs
  |3,_=>exact key 3 h7 cs hcs
theorem EG {h h':List (Nat×Ob)}:∀ (l:List (Nat×Nat)),cO h S N h' l->∀ k b,get l k=some b->∃ y x,get h' k=some y/\get h b=some x/\bK h S N y x
 |[],_,k,b,hk=>by simp [get] at hk
 |(k0,b0)::l,hh,k,b,hk=>by
  simp only [cO] at hh
  simp only [get] at hk
  split at hk
  ·rename_i e;cases hk;subst e
   obtain ⟨h1,_⟩:=hh
   split at h1
   ·rename_i y x hy hx;exact ⟨y,x,hy,hx,h1⟩
   ·exact h1.elim
  ·exact EG l hh.2 k b hk
theorem O4 {h':List (Nat×Ob)}:∀ (l:List Nat),gY h' l->∀ k ∈ l,∃ e sz,get h' k=some (.row e sz [])
 |[],_,k,hk=>by simp at hk
 |k0::l,hh,k,hk=>by
  simp only [gY] at hh
  rcases List.mem_cons.1 hk with rfl|hk
  ·obtain ⟨h1,_⟩:=hh
   split at h1
   ·rename_i e sz xs hg;subst h1;exact ⟨e,sz,hg⟩
   ·exact h1.elim
  ·exact O4 l hh.2 k hk
theorem O5:∀ (ys xs:List (Value×AV)),nR h S N ys xs->ys.length=xs.length/\∀ (i:Nat) (k:Value) (y:AV),ys[i]? =some (k,y)->∃ x,xs[i]? =some (k,x)/\rv h S N y x
 |[],[],_=>⟨rfl,fun i k y h=>by simp at h⟩
 |(k,y)::l,(k',x)::l',hh=>by
  simp only [nR] at hh
  obtain ⟨rfl,h2,h3⟩:=hh
  obtain ⟨h4,h5⟩:=O5 l l' h3
  refine ⟨by simp [h4],fun i k0 y0 hi=> ?_⟩
  cases i with
  |zero=>simp at hi;obtain ⟨rfl,rfl⟩:=hi;exact ⟨x,rfl,h2⟩
  |succ i=>simpa using h5 i k0 y0 (by simpa using hi)
 |[],_::_,hh=>by simp [nR] at hh
 |_::_,[],hh=>by simp [nR] at hh
theorem vJ (hr:HR C ρ U h w) (hS:iD h S N h'=true) (hH:cO h S N h' S) (hN:gY h' N):HR C (dK ρ S N) (jy S N) h' w:=by
 obtain ⟨inj,hNS,hdom,h4⟩:=afL hS
 refine ⟨fun k o hk=> ?_,fun k hk=> ?_,fun k k' g o n o' n' h1 h2=> ?_,hr.os,hr.tape,hr.output,hr.size,hr.old,hr.jw,fun g ho=>hr.dJ g (O3 ho).1,fun b l hb=> ?_⟩
 ·refine ⟨hdom k o hk,?_⟩
  cases hg:get S k with
  |some b=>
   rw [xL hg]
   obtain ⟨y,x,hy,hx,hv⟩:=EG S hH k b hg
   rw [hk] at hy;cases hy
   obtain ⟨_,jM⟩:=hr.hp b x hx
   cases o<;>cases x<;>simp only [bK] at hv
   ·rename_i ys xs
    obtain ⟨g,o,n,e,cells,h1,h2,h3,h5,h6⟩:=jM
    have hl:=iX _ _ hv
    refine ⟨g,o,n,e,cells,h1,h2,h3,by omega,fun j c hj=> ?_⟩
    obtain ⟨x,hx,hxv⟩:=iY _ _ hv j c hj
    obtain ⟨u,hu,huv⟩:=h6 j x hx
    exact ⟨u,hu,kS hr huv c hxv⟩
   ·obtain ⟨rfl,rfl,rfl⟩:=hv
    rcases jM with jM|⟨g,o,n,cells,h1,h2,h3,h5,h6,h7⟩
    ·exact .inl jM
    ·refine .inr ⟨g,o,n,cells,h1,h2,h3,h5,h6,fun k x j c hk hj=> ?_⟩
     obtain ⟨u,hu,h8,h9⟩:=h7 k x j c hk hj
     exact ⟨u,hu,h8,h9.new⟩
   ·obtain ⟨g,dz,clock,h1,h2,h3,h5⟩:=jM
    obtain ⟨hl,O6⟩:=O5 _ _ hv
    refine ⟨g,dz,clock,h1,h2,by omega,fun i k c m hi he=> ?_⟩
    obtain ⟨x,hx,hxv⟩:=O6 i k c hi
    exact ⟨(h5 i k x m hx he).1,kS hr (h5 i k x m hx he).2 c hxv⟩
  |none=>
   have hkN:k ∈ N:=by
    rcases hdom k o hk with h|h
    ·obtain ⟨b,hb⟩:=vI h
     rw [hg] at hb;cases hb
    ·exact h
   obtain ⟨e,sz,hrow⟩:=O4 N hN k hkN
   rw [hk] at hrow;cases hrow
   refine .inl ⟨?_,rfl⟩
   simp only [dK,hg,hkN,if_true]
 ·cases hg:get S k with
  |some b=>
   obtain ⟨y,x,hy,_⟩:=EG S hH k b hg
   rw [hk] at hy;cases hy
  |none=>
   have hkN:k ∉ N:=fun h=>by
    obtain ⟨e,sz,hrow⟩:=O4 N hN k h
    rw [hk] at hrow;cases hrow
   simp only [dK,hg,hkN,if_false]
 ·have key:∀ k g o n,dK ρ S N k= .at g o n->∃ b,get S k=some b/\ρ b= .at g o n:=fun k g o n hk=>by
   unfold dK at hk
   split at hk
   ·rename_i b hb;exact ⟨b,hb,hk⟩
   ·split at hk<;>cases hk
  obtain ⟨b,hb,hl⟩:=key k g o n h1
  obtain ⟨b',hb',hl'⟩:=key k' g o' n' h2
  have:=hr.inj b b' g o n o' n' hl hl'
  subst this
  exact inj k k' b hb hb'
 ·obtain ⟨h1,h2,cs,h3⟩:=hr.fix b l hb
  have hg:=h4 b (C.KQ b l hb) cs h3
  refine ⟨by rw [xL hg];exact h1,EF hg,?_⟩
  obtain ⟨y,x,hy,hx,hv⟩:=EG S hH b b hg
  rw [h3] at hx;cases hx
  cases y<;>simp only [bK] at hv
  exact ⟨_,hy⟩
theorem Wk.mk {s s':St} (S:List (Nat×Nat)) (N:List Nat) (hS:iD s.h S N s'.h=true) (hn:(S.map Prod.fst++N).all (fun k=>decide (k<s'.n))=true)
 (hH:cO s.h S N s'.h S) (hN:gY s'.h N) (hT:d9 s.h S N s.t s'.t):Wk s s':=by
 intro C ρ U a w hR hU
 refine ⟨dK ρ S N,jy S N,⟨vJ hR.hr hS hH hN,hR.defers,hR.sz,fun k x' hk=> ?_⟩,fun b hb=> ?_⟩
 ·have key:∀ l,d9 s.h S N s.t l->get l k=some x'->∃ x,get s.t k=some x/\rv s.h S N x' x:=fun l=>by
   induction l with
   |nil=>intro _ h;simp [get] at h
   |cons p l ih=>
    obtain ⟨j,y⟩:=p
    intro h hg
    simp only [d9] at h
    simp only [get] at hg
    split at hg
    ·rename_i e;cases hg;subst e
     obtain ⟨h1,_⟩:=h
     split at h1
     ·rename_i x hx;exact ⟨x,hx,h1⟩
     ·exact h1.elim
    ·exact ih h.2 hg
  obtain ⟨x,hx,hv⟩:=key s'.t hT hk
  obtain ⟨u,hu,iU⟩:=hR.tm k x hx
  exact ⟨u,hu,kS hR.hr iU x' hv⟩
 ·simp only [List.all_eq_true,List.mem_append,decide_eq_true_eq] at hn
  rcases hb with hb|hb
  ·exact hn b (.inl hb)
  ·exact hn b (.inr hb)
theorem afM {h h':List (Nat×Ob)} {S:List (Nat×Nat)} {N:List Nat} {t:List (Nat×AV)} {k:Nat} {x':AV}:∀ l,d9 h S N t l->get l k=some x'->∃ x,get t k=some x/\rv h S N x' x:=fun l=>by
 induction l with
 |nil=>intro _ h;simp [get] at h
 |cons p l ih=>
  obtain ⟨j,y⟩:=p
  intro h hg
  simp only [d9] at h
  simp only [get] at hg
  split at hg
  ·rename_i e;cases hg;subst e
   obtain ⟨h1,_⟩:=h
   split at h1
   ·rename_i x hx;exact ⟨x,hx,h1⟩
   ·exact h1.elim
  ·exact ih h.2 hg
theorem Eh.mk {t t':List (Nat×AV)} {h h':List (Nat×Ob)} (S:List (Nat×Nat)) (hid:S.all (fun p=>p.1==p.2)=true) (hS:iD h S [] h'=true) (hH:cO h S [] h' S) (hT:d9 h S [] t t'):Eh t h t' h':=by
 intro C ρ U a w hR
 refine ⟨dK ρ S [],jy S [],⟨vJ hR.hr hS hH (by simp only [gY]),hR.defers,hR.sz,fun k x' hk=> ?_⟩,fun b hb=> ?_⟩
 ·obtain ⟨x,hx,hv⟩:=afM (h':=h') t' hT hk
  obtain ⟨u,hu,iU⟩:=hR.tm k x hx
  exact ⟨u,hu,kS hR.hr iU x' hv⟩
 ·rcases hb with hb|hb
  ·obtain ⟨c,hc⟩:=vI hb
   have:=List.all_eq_true.1 hid _ (get_mem hc)
   simp only [beq_iff_eq] at this
   subst this
   obtain ⟨y,x,_,hx,_⟩:=EG S hH b b hc
   exact (hR.hr.hp b x hx).1
  ·simp at hb
end
end Go.Eng
namespace Go.Eng
open Go
inductive iE where
 |tmp (k:Nat)
 |cell (k:Nat) (ag:Bool) (sz:Nat)
def vK (P:Program):List ResultVar->Option (List iE)
 |[]=>some []
 | .tmp k::l=>match vK P l with
  |some r=>some (.tmp k::r)
  |none=>none
 | .cell k ty::l=>match dm P ty,bG P ty,vK P l with
  |some ag,some sz,some r=>some (.cell k ag sz::r)
  |_,_,_=>none
def iZ (t:List (Nat×AV)) (h:List (Nat×Ob)):List iE->Option (List AV)
 |[]=>some []
 | .tmp k::l=>match get t k,iZ t h l with
  |some x,some r=>some (x::r)
  |_,_=>none
 | .cell k ag sz::l=>match get t k,iZ t h l with
  |some (.ptr b 0),some r=>match get h b with
   |some (.box cs)=>if ag then (if sz=cs.length then some (.agg cs::r) else none) else match cs with
    |c::_=>some (c::r)
    |[]=>none
   |_=>none
  |_,_=>none
def ay:List AV->AV
 |[x]=>x
 |xs=> .aG xs
def CR (tmps:Array Value):ResultVar->Sem Value
 | .tmp t=>pure (tmps.getD t undef)
 | .cell a t=>do loadVar t (<-asAddr (tmps.getD a undef))
section
variable {P:Program} {C:Ctx} {ρ:Nat->Loc} {U:Nat->Prop} {h:List (Nat×Ob)} {w:World} {t:List (Nat×AV)} {a:Act}
theorem CS (hr:HR C ρ U h w) (ht:Tm C ρ U w t a):∀ (l:List ResultVar) (sl:List iE) (xs:List AV),vK P l=some sl->iZ t h sl=some xs->
 ∃ vs:List Value,vs.length=l.length/\xs.length=l.length/\(∀ (i:Nat) (x:ResultVar) (v:Value),l[i]? =some x->vs[i]? =some v->(CR a.tmps x).run P w= .ok v w)/\
  ∀ (i:Nat) (x:AV) (v:Value),xs[i]? =some x->vs[i]? =some v->VR w (aP C ρ w) ρ U x v
 |[],sl,xs,hs,hx=>by
  simp only [vK,Option.some.injEq] at hs
  subst hs
  simp only [iZ,Option.some.injEq] at hx
  subst hx
  exact ⟨[],rfl,rfl,fun i x v h=>by simp at h,fun i x v h=>by simp at h⟩
 | .tmp k::l,sl,xs,hs,hx=>by
  simp only [vK] at hs
  split at hs
  ·rename_i r hr'
   cases hs
   simp only [iZ] at hx
   split at hx
   ·rename_i x r' hxk hrr
    cases hx
    obtain ⟨vs,h1,h2,h3,h4⟩:=CS hr ht l r r' hr' hrr
    obtain ⟨u,hu,hv⟩:=ht k x hxk
    refine ⟨u::vs,by simp [h1],by simp [h2],fun i y v hy hv'=> ?_,fun i y v hy hv'=> ?_⟩
    ·cases i with
     |zero=>
      simp at hy hv';subst hy;subst hv'
      simp [CR,hu]
     |succ i=>exact h3 i y v (by simpa using hy) (by simpa using hv')
    ·cases i with
     |zero=>simp at hy hv';subst hy;subst hv';exact hv
     |succ i=>exact h4 i y v (by simpa using hy) (by simpa using hv')
   ·cases hx
  ·cases hs
 | .cell k ty::l,sl,xs,hs,hx=>by
  simp only [vK] at hs
  split at hs
  ·rename_i ag sz r hag hsz hr'
   cases hs
   simp only [iZ] at hx
   split at hx
   ·rename_i b r' hxk hrr
    split at hx
    ·rename_i cs hb
     obtain ⟨vs,h1,h2,h3,h4⟩:=CS hr ht l r r' hr' hrr
     obtain ⟨u,hu,hv⟩:=ht k _ hxk
     obtain ⟨_,ad,rfl,had⟩:=hv.rM
     obtain ⟨_,g,o,n,e,cells,hl,hg,hon,hn,hc⟩:=hr.hp b _ hb
     have ha:=had g o n hl
     subst ha
     have hL:=Yd (P:=P) (w:=w) (ρ:=ρ) (U:=U) (g:=g) (o:=o) hag hsz (cs:=cs) (vs:=((List.range cs.length).map fun i=>(cells[o+i]?).getD undef).toArray) (ok:=aP C ρ w) (by simp)
      (fun j v hj=>by
       rw [ranged] at hj
       obtain ⟨hlt,rfl⟩:=hj
       rw [Ep hg,Array.getElem?_eq_getElem (show o+j<cells.size by omega)]
       rfl)
      (fun j c v hj hv=>by
       rw [ranged] at hv
       obtain ⟨hlt,rfl⟩:=hv
       obtain ⟨u,hu,hv⟩:=hc j c hj
       rw [hu];exact hv)
     have fin:∀ x,(∃ v,(loadVar ty ⟨g,o,none⟩).run P w= .ok v w/\VR w (aP C ρ w) ρ U x v)->xs=x::r'->∃ vs:List Value,vs.length=(ResultVar.cell k ty::l).length/\xs.length=(ResultVar.cell k ty::l).length/\(∀ (i:Nat) (x:ResultVar) (v:Value),(ResultVar.cell k ty::l)[i]? =some x->vs[i]? =some v->(CR a.tmps x).run P w= .ok v w)/\
      ∀ (i:Nat) (x:AV) (v:Value),xs[i]? =some x->vs[i]? =some v->VR w (aP C ρ w) ρ U x v:=fun x hxv hxs=>by
      obtain ⟨v,hrun,iU⟩:=hxv
      exact ⟨v::vs,by simp [h1],by rw [hxs];simp [h2],fun i y v' hy hv'=>by
       cases i with
       |zero=>
        simp at hy hv';subst hy;subst hv'
        simp only [CR,Sem.run_bind,Array.getD_eq_getD_getElem?,hu,Option.getD_some,asAddr,Sem.run_pure,Result.andThen_ok]
        exact hrun
       |succ i=>exact h3 i y v' (by simpa using hy) (by simpa using hv'),fun i y v' hy hv'=>by
       rw [hxs] at hy
       cases i with
       |zero=>simp at hy hv';subst hy;subst hv';exact iU
       |succ i=>exact h4 i y v' (by simpa using hy) (by simpa using hv')⟩
     split at hx
     ·rename_i hag'
      split at hx
      ·rename_i hsz'
       cases hx
       exact fin _ (hL.1 hag' hsz') rfl
      ·cases hx
     ·rename_i hag'
      split at hx
      ·rename_i c cs'
       cases hx
       exact fin _ (hL.2 (by simpa using hag') c rfl) rfl
      ·cases hx
    ·cases hx
   ·cases hx
  ·cases hs
theorem Le {fn:Func} (tmps:Array Value) (w:World) {l:List ResultVar} (hl:fn.results.toList=l) {vs:List Value} (h1:vs.length=l.length) (h3:l.length<=5)
 (hv:∀ (i:Nat) (x:ResultVar) (v:Value),l[i]? =some x->vs[i]? =some v->(CR tmps x).run P w= .ok v w):
 (results fn tmps).run P w= .ok (if h:vs.length=1 then vs[0] else .tuple vs.toArray) w:=by
 have he:fn.results=l.toArray:=by rw [<-hl]
 have e0:results fn tmps=(do let vs <-l.toArray.mapM (CR tmps);pure (if h:vs.size=1 then vs[0] else .tuple vs)):=by
  rw [<-he]
  unfold results
  rfl
 rw [e0]
 clear he e0
 subst hl
 revert hv h1 h3
 generalize fn.results.toList=l
 intro h1 h3 hv
 match l,vs,h1,hv with
 |[],[],_,_=>simp
 |[x],[v],_,hv=>
  have:=(hv 0 x v rfl rfl)
  simp [this]
 |[x,y],[v,u],_,hv=>
  have e1:=(hv 0 x v rfl rfl)
  have e2:=(hv 1 y u rfl rfl)
  simp [e1,e2]
 |[x,y,z],[v,u,q],_,hv=>
  have e1:=(hv 0 x v rfl rfl)
  have e2:=(hv 1 y u rfl rfl)
  have e3:=(hv 2 z q rfl rfl)
  simp [e1,e2,e3]
 |[x,y,z,x'],[v,u,q,v'],_,hv=>
  have e1:=(hv 0 x v rfl rfl)
  have e2:=(hv 1 y u rfl rfl)
  have e3:=(hv 2 z q rfl rfl)
  have e4:=(hv 3 x' v' rfl rfl)
  simp [e1,e2,e3,e4]
 |[x,y,z,x',y'],[v,u,q,v',u'],_,hv=>
  have e1:=(hv 0 x v rfl rfl)
  have e2:=(hv 1 y u rfl rfl)
  have e3:=(hv 2 z q rfl rfl)
  have e4:=(hv 3 x' v' rfl rfl)
  have e5:=(hv 4 y' u' rfl rfl)
  simp [e1,e2,e3,e4,e5]
 |_::_::_::_::_::_::_,_,_,_=>simp at h3
theorem Lf {xs:List AV} {vs:List Value} (hl:xs.length=vs.length) (hv:∀ (i:Nat) (x:AV) (v:Value),xs[i]? =some x->vs[i]? =some v->VR w (aP C ρ w) ρ U x v):
 VR w (aP C ρ w) ρ U (ay xs) (if h:vs.length=1 then vs[0] else .tuple vs.toArray):=by
 match xs,vs,hl,hv with
 |[],[],_,_=>exact .aG rfl (fun i c u h=>by simp at h)
 |[x],[v],_,hv=>exact hv 0 x v rfl rfl
 |x::y::xs,v::u::vs,hl,hv=>
  rw [dif_neg (by simp)]
  refine .aG (by simpa using hl) fun i c u' hi hu=>hv i c u' hi (by simpa using hu)
end
end Go.Eng
namespace Go.Eng
open Go
def dB:Nat->List Ob->List (Nat×Ob)
 |_,[]=>[]
 |k,o::l=>(k,o)::dB (k+1) l
def gq (k:Nat) (bs:List (List AV)):List (Nat×Ob):=dB k (bs.map .box)
def gu:List Nat->List (List AV)->List (Nat×Ob)
 |b::B,cs::bs=>(b,.box cs)::gu B bs
 |_,_=>[]
def outs (bs:List (List AV)) (es:List Ob):List (Nat×Ob):=gq 0 bs++dB 4 es
mutual
def sh (nm:Nat):AV->AV
 | .own k sz off len=> .own (nm+(k - 4)) sz off len
 | .ptr k j=> .ptr (nm+(k - 4)) j
 | .agg cs=> .agg (kT nm cs)
 | .aG cs=> .aG (kT nm cs)
 | .fn f cs=> .fn f (kT nm cs)
 |x=>x
def kT (nm:Nat):List AV->List AV
 |[]=>[]
 |c::cs=>sh nm c::kT nm cs
end
mutual
def dW (m:Nat):AV->Bool
 | .v _=>true
 | .sl _ _=>true
 | .dI _ _=>true
 | .own k _ _ _=>decide (4<=k)&&decide (k<4+m)
 | .ptr k _=>decide (4<=k)&&decide (k<4+m)
 | .agg cs=>mP m cs
 | .aG cs=>mP m cs
 | .fn _ cs=>mP m cs
 |_=>false
def mP (m:Nat):List AV->Bool
 |[]=>true
 |c::cs=>dW m c&&mP m cs
end
mutual
def na:AV->Bool
 | .v _=>true
 | .own _ _ _ _=>true
 | .agg cs=>jP cs
 | .aG cs=>jP cs
 | .fn _ cs=>jP cs
 |_=>false
def jP:List AV->Bool
 |[]=>true
 |c::cs=>na c&&jP cs
end
theorem nT (nm:Nat):∀ (cs:List AV) (i:Nat) (c:AV),(kT nm cs)[i]? =some c->∃ x,cs[i]? =some x/\c=sh nm x
 |[],i,c,h=>by simp [kT] at h
 |x::cs,0,c,h=>by simp [kT] at h;exact ⟨x,rfl,h.symm⟩
 |x::cs,i+1,c,h=>by
  simp only [kT,List.getElem?_cons_succ] at h
  simpa using nT nm cs i c h
theorem nU (nm:Nat):∀ (cs:List AV),(kT nm cs).length=cs.length
 |[]=>rfl
 |x::cs=>by simp [kT,nU nm cs]
theorem xM {m:Nat}:∀ (cs:List AV),mP m cs=true->∀ (i:Nat) (c:AV),cs[i]? =some c->dW m c=true
 |[],_,i,c,h=>by simp at h
 |x::cs,hh,0,c,h=>by simp only [mP,Bool.and_eq_true] at hh;simp at h;subst h;exact hh.1
 |x::cs,hh,i+1,c,h=>by simp only [mP,Bool.and_eq_true] at hh;exact xM cs hh.2 i c (by simpa using h)
theorem mQ:∀ (cs:List AV),jP cs=true->∀ (i:Nat) (c:AV),cs[i]? =some c->na c=true
 |[],_,i,c,h=>by simp at h
 |x::cs,hh,0,c,h=>by simp only [jP,Bool.and_eq_true] at hh;simp at h;subst h;exact hh.1
 |x::cs,hh,i+1,c,h=>by simp only [jP,Bool.and_eq_true] at hh;exact mQ cs hh.2 i c (by simpa using h)
theorem jl:∀ (l:List Ob) (k j:Nat),get (dB k l) j=if k<=j then l[j - k]? else none
 |[],k,j=>by simp [dB]
 |o::l,k,j=>by
  simp only [dB,get]
  by_cases e:k=j
  ·subst e;simp
  ·rw [if_neg e,jl l (k+1) j]
   by_cases h:k<=j
   ·rw [if_pos h,if_pos (show k+1<=j by omega)]
    have:j - k=(j - (k+1))+1:=by omega
    rw [this,List.getElem?_cons_succ]
   ·rw [if_neg h,if_neg (by omega)]
theorem get_append {α:Type} (us t:List (Nat×α)) (k:Nat):get (us++t) k=match get us k with
 |some x=>some x
 |none=>get t k:=by
 induction us with
 |nil=>rfl
 |cons p us ih=>
  obtain ⟨a,b⟩:=p
  simp only [List.cons_append,get]
  split
  ·rfl
  ·exact ih
theorem CU {bs:List (List AV)} {es:List Ob} {i:Nat} {cs:List AV} (h:bs[i]? =some cs):get (outs bs es) i=some (.box cs):=by
 simp [outs,get_append,gq,jl,h]
theorem Lg {bs:List (List AV)} {es:List Ob} {i:Nat} {o:Ob} (hb:bs.length<=4) (h:es[i]? =some o):get (outs bs es) (4+i)=some o:=by
 have:(bs.map Ob.box)[4+i]? =none:=by rw [List.getElem?_map,List.getElem?_eq_none (by omega)];rfl
 simp only [outs,get_append,gq,jl,Nat.zero_le,if_true,Nat.sub_zero,this]
 rw [if_pos (by omega)]
 have:4+i - 4=i:=by omega
 rw [this,h]
theorem xN:∀ (B:List Nat) (bs:List (List AV)) (k:Nat) (o:Ob),get (gu B bs) k=some o->∃ (i:Nat) (cs:List AV),B[i]? =some k/\bs[i]? =some cs/\o= .box cs
 |[],bs,k,o,h=>by simp [gu,get] at h
 |b::B,[],k,o,h=>by simp [gu,get] at h
 |b::B,cs::bs,k,o,h=>by
  simp only [gu,get] at h
  split at h
  ·rename_i e;cases h;subst e;exact ⟨0,cs,rfl,rfl,rfl⟩
  ·obtain ⟨i,cs',h1,h2,h3⟩:=xN B bs k o h
   exact ⟨i+1,cs',by simpa using h1,by simpa using h2,h3⟩
theorem Lh:∀ (B:List Nat) (bs:List (List AV)) (k:Nat),get (gu B bs) k=none->B.length=bs.length->k ∉ B
 |[],bs,k,h,hl=>by simp
 |b::B,[],k,h,hl=>by simp at hl
 |b::B,cs::bs,k,h,hl=>by
  simp only [gu,get] at h
  split at h
  ·cases h
  ·rename_i e
   have:=Lh B bs k h (by simpa using hl)
   simp only [List.mem_cons,not_or]
   exact ⟨fun h=>e h.symm,this⟩
section
variable {w w':World} {ok ok':Nat->Prop} {ρ ρ':Nat->Loc} {U U':Nat->Prop}
theorem fK.mono (hok:∀ g,ok g->ok' g) (hw:∀ g,ok g->w'.heap[g]? =w.heap[g]?) (hU:∀ b,U b->U' b) (hρ:Later U ρ ρ') {l:Loc} {o:Ob}
 (hl:∀ g o n,l= .at g o n->w'.heap[g]? =w.heap[g]?) (ho:fK w ok ρ U l o):fK w' ok' ρ' U' l o:=by
 cases o with
 |box cs=>
  obtain ⟨g,o,n,e,cells,h1,h2,h3,h4,h5⟩:=ho
  refine ⟨g,o,n,e,cells,h1,(hl g o n h1).trans h2,h3,h4,fun j c hj=> ?_⟩
  obtain ⟨u,hu,hv⟩:=h5 j c hj
  exact ⟨u,hu,hv.mono hok hw hU hρ⟩
 |row e sz xs=>
  rcases ho with ho|⟨g,o,n,cells,h1,h2,h3,h4,h5,h6⟩
  ·exact .inl ho
  ·refine .inr ⟨g,o,n,cells,h1,(hl g o n h1).trans h2,h3,h4,h5,fun k x j c hk hj=> ?_⟩
   obtain ⟨u,hu,h1c,hv⟩:=h6 k x j c hk hj
   exact ⟨u,hu,h1c,hv.mono hok hw⟩
 |map es=>
  obtain ⟨g,dz,clock,h1,h2,h3,h4⟩:=ho
  exact ⟨g,dz,clock,h1,(hl g 0 0 h1).trans h2,h3,fun i k c m hi he=>⟨(h4 i k c m hi he).1,(h4 i k c m hi he).2.mono hok hw hU hρ⟩⟩
 |dead=>exact ho
theorem VP.na {x:AV} {u:Value} (h:VP w ok x u):Eng.na x=true->VP w' ok' x u:=by
 induction h with
 |v x=>intro _;exact .v x
 |agg hl _ ih=>intro hn;exact .agg hl fun i c u h1 h2=>ih i c u h1 h2 (mQ _ (by simpa [Eng.na] using hn) i c h1)
 |aG hl _ ih=>intro hn;exact .aG hl fun i c u h1 h2=>ih i c u h1 h2 (mQ _ (by simpa [Eng.na] using hn) i c h1)
 |fn hf hl _ ih=>intro hn;exact .fn hf hl fun i c u h1 h2=>ih i c u h1 h2 (mQ _ (by simpa [Eng.na] using hn) i c h1)
 |mI h hc ih=>intro hn;simp [Eng.na,jP] at hn
 |gH=>intro hn;simp [Eng.na] at hn
 |sl=>intro hn;simp [Eng.na] at hn
 |dI=>intro hn;simp [Eng.na] at hn
theorem VR.sh {nm m:Nat} (hok:∀ g,ok g->ok' g) (hρ:∀ i,i<m->ρ' (nm+i)=ρ (4+i)) (hU:∀ i,i<m->U' (nm+i)) {x:AV} {u:Value} (h:VR w ok ρ U x u):
 dW m x=true->VR w ok' ρ' U' (Eng.sh nm x) u:=by
 have kp:∀ {x:AV} {u:Value},VP w ok x u->VR w ok' ρ' U' (Eng.sh nm x) u:=fun h=>by
  induction h with
  |v x=>exact .p (.v x)
  |agg hl _ ih=>
   refine .agg (by rw [nU];exact hl) fun i c u h1 h2=> ?_
   obtain ⟨x,hx,rfl⟩:=nT nm _ i c h1
   exact ih i x u hx h2
  |aG hl _ ih=>
   refine .aG (by rw [nU];exact hl) fun i c u h1 h2=> ?_
   obtain ⟨x,hx,rfl⟩:=nT nm _ i c h1
   exact ih i x u hx h2
  |fn hf hl _ ih=>
   refine .fn hf (by rw [nU];exact hl) fun i c u h1 h2=> ?_
   obtain ⟨x,hx,rfl⟩:=nT nm _ i c h1
   exact ih i x u hx h2
  |mI h hc ih=>exact .p (.mI (h.mono hok (fun _ _=>rfl)) hc)
  |gH=>exact .p .gH
  |sl a n cap f h1 h2 h3 h4 h5 h6=>exact .p ((VP.sl a n cap f h1 h2 h3 h4 h5 h6).mono hok (fun _ _=>rfl))
  |dI g o f h1 h2 h3=>exact .p ((VP.dI g o f h1 h2 h3).mono hok (fun _ _=>rfl))
 induction h with
 |p h=>intro _;exact kp h
 |agg hl _ ih=>
  intro he
  refine .agg (by rw [nU];exact hl) fun i c u h1 h2=> ?_
  obtain ⟨x,hx,rfl⟩:=nT nm _ i c h1
  exact ih i x u hx h2 (xM _ (by simpa [dW] using he) i x hx)
 |aG hl _ ih=>
  intro he
  refine .aG (by rw [nU];exact hl) fun i c u h1 h2=> ?_
  obtain ⟨x,hx,rfl⟩:=nT nm _ i c h1
  exact ih i x u hx h2 (xM _ (by simpa [dW] using he) i x hx)
 |fn hf hl _ ih=>
  intro he
  refine .fn hf (by rw [nU];exact hl) fun i c u h1 h2=> ?_
  obtain ⟨x,hx,rfl⟩:=nT nm _ i c h1
  exact ih i x u hx h2 (xM _ (by simpa [dW] using he) i x hx)
 |own hu h=>
  intro he
  simp only [dW,Bool.and_eq_true,decide_eq_true_eq] at he
  rename_i b sz off len u
  have e:4+(b - 4)=b:=by omega
  refine .own (hU _ (by omega)) ?_
  rw [hρ _ (by omega),e]
  exact h
 |ptr a hu h=>
  intro he
  simp only [dW,Bool.and_eq_true,decide_eq_true_eq] at he
  rename_i b j
  have e:4+(b - 4)=b:=by omega
  refine .ptr a (hU _ (by omega)) ?_
  rw [hρ _ (by omega),e]
  exact h
 |rp=>intro he;simp [dW] at he
 |mp=>intro he;simp [dW] at he
theorem VR.Y1 {nm m:Nat} (hρ:∀ i,i<m->ρ' (nm+i)=ρ (4+i)) (hU:∀ i,i<m->U' (nm+i)) {x:AV} {u:Value} (h:VR w ok ρ U x u):
 dW m x=true->Eng.na x=true->VR w' ok' ρ' U' (Eng.sh nm x) u:=by
 have kp:∀ {x:AV} {u:Value},VP w ok x u->Eng.na x=true->VR w' ok' ρ' U' (Eng.sh nm x) u:=fun h=>by
  induction h with
  |v x=>intro _;exact .p (.v x)
  |agg hl _ ih=>
   intro hn
   refine .agg (by rw [nU];exact hl) fun i c u h1 h2=> ?_
   obtain ⟨x,hx,rfl⟩:=nT nm _ i c h1
   exact ih i x u hx h2 (mQ _ (by simpa [Eng.na] using hn) i x hx)
  |aG hl _ ih=>
   intro hn
   refine .aG (by rw [nU];exact hl) fun i c u h1 h2=> ?_
   obtain ⟨x,hx,rfl⟩:=nT nm _ i c h1
   exact ih i x u hx h2 (mQ _ (by simpa [Eng.na] using hn) i x hx)
  |fn hf hl _ ih=>
   intro hn
   refine .fn hf (by rw [nU];exact hl) fun i c u h1 h2=> ?_
   obtain ⟨x,hx,rfl⟩:=nT nm _ i c h1
   exact ih i x u hx h2 (mQ _ (by simpa [Eng.na] using hn) i x hx)
  |mI h hc ih=>intro hn;simp [Eng.na,jP] at hn
  |gH=>intro hn;simp [Eng.na] at hn
  |sl=>intro hn;simp [Eng.na] at hn
  |dI=>intro hn;simp [Eng.na] at hn
 induction h with
 |p h=>intro _ hn;exact kp h hn
 |agg hl _ ih=>
  intro he hn
  refine .agg (by rw [nU];exact hl) fun i c u h1 h2=> ?_
  obtain ⟨x,hx,rfl⟩:=nT nm _ i c h1
  exact ih i x u hx h2 (xM _ (by simpa [dW] using he) i x hx) (mQ _ (by simpa [Eng.na] using hn) i x hx)
 |aG hl _ ih=>
  intro he hn
  refine .aG (by rw [nU];exact hl) fun i c u h1 h2=> ?_
  obtain ⟨x,hx,rfl⟩:=nT nm _ i c h1
  exact ih i x u hx h2 (xM _ (by simpa [dW] using he) i x hx) (mQ _ (by simpa [Eng.na] using hn) i x hx)
 |fn hf hl _ ih=>
  intro he hn
  refine .fn hf (by rw [nU];exact hl) fun i c u h1 h2=> ?_
  obtain ⟨x,hx,rfl⟩:=nT nm _ i c h1
  exact ih i x u hx h2 (xM _ (by simpa [dW] using he) i x hx) (mQ _ (by simpa [Eng.na] using hn) i x hx)
 |own hu h=>
  intro he hn
  simp only [dW,Bool.and_eq_true,decide_eq_true_eq] at he
  rename_i b sz off len u
  have e:4+(b - 4)=b:=by omega
  refine .own (hU _ (by omega)) ?_
  rw [hρ _ (by omega),e]
  exact h
 |ptr=>intro he hn;simp [Eng.na] at hn
 |rp=>intro he;simp [dW] at he
 |mp=>intro he;simp [dW] at he
end
end Go.Eng
