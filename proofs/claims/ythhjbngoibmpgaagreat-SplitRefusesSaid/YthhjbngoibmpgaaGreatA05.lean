/-
  Part of a proof: lemmas and definitions of this work.
  No condition.
-/
import Derived.Test.YthhjbngoibmpgaaGreatA04
set_option linter.all false
set_option maxRecDepth 100000
set_option maxHeartbeats 8000000
namespace Go.Eng
open Go
def jr (run:RunT) (nm:Nat) (o:aG) (t:List (Nat×AV)) (h:List (Nat×Ob)):Option Rec:=
 match o.op with
 | .call f args=>match ev t f with
  |some (.fn g caps)=>match jZ t args with
   |some xs=>if g<1000000 then pV run nm h g (xs++caps) else if g<2000000 then pV run nm h (g - 1000000) (caps++xs) else none
   |none=>none
  |_=>none
 | .lM neg x=>match vD (ev t x) with
  |some (some b)=>some ⟨.v (.bool (if neg then !b else b)),[],[]⟩
  |_=>none
 |op=>match ku nm t h op with
  |some e=>bif preB t h op then some ⟨e.val,e.upd,dK t op⟩ else none
  |none=>none
section
variable {P:Program} {run:RunT}
theorem ahX {nm:Nat} {t:List (Nat×AV)} {h:List (Nat×Ob)} {op:gm} {r:Rec} (e:(match ku nm t h op with
 |some e=>bif preB t h op then some (⟨e.val,e.upd,dK t op⟩:Rec) else none
 |none=>none)=some r) (k:List (Nat×AV)->List (Nat×Ob)->E->Prop) (hk:∀ p,k t h ⟨p,r.val,r.upd⟩):vF nm t h op (aL nm t h op) k:=by
 split at e
 ·rename_i e0 h0
  cases hp:preB t h op with
  |false=>rw [hp] at e;cases e
  |true=>
   rw [hp] at e
   simp only [cond_true,Option.some.injEq] at e
   subst e
   have h1:aL nm t h op=some e0:=by rw [Iq];exact h0
   have h2:=Pv h1 hp
   rw [h1]
   exact ⟨h2,hk _⟩
 ·cases e
theorem ahY {nm:Nat} {t:List (Nat×AV)} {h:List (Nat×Ob)} {op:gm} {r:Rec} (e:(match ku nm t h op with
 |some e=>bif preB t h op then some (⟨e.val,e.upd,dK t op⟩:Rec) else none
 |none=>none)=some r) (k:Rec->Prop) (hk:k r):onE (aL nm t h op) fun e=>k ⟨e.val,e.upd,dK t op⟩:=by
 split at e
 ·rename_i e0 h0
  cases hp:preB t h op with
  |false=>rw [hp] at e;cases e
  |true=>
   rw [hp] at e
   simp only [cond_true,Option.some.injEq] at e
   subst e
   have h1:aL nm t h op=some e0:=by rw [Iq];exact h0
   have h2:=Pv h1 hp
   rw [h1]
   exact ⟨h2,hk⟩
 ·cases e
def pW:gm->Bool
 | .call _ _=>false
 | .lM _ _=>false
 |_=>true
theorem ZY {nm:Nat} {o:aG} {t:List (Nat×AV)} {h:List (Nat×Ob)} (hp:pW o.op=true):jr run nm o t h=(match ku nm t h o.op with
 |some e=>bif preB t h o.op then some (⟨e.val,e.upd,dK t o.op⟩:Rec) else none
 |none=>none):=by
 obtain ⟨dst,op,guard,af⟩:=o
 cases op<;>first|(simp [pW] at hp;done)|rfl
theorem Z0 {nm:Nat} {o:aG} {t:List (Nat×AV)} {h:List (Nat×Ob)} {Q:List (Nat×AV)->List (Nat×Ob)->Prop} (hp:pW o.op=true):
 jG P nm o t h Q=vF nm t h o.op (aL nm t h o.op) fun t h e=>Q (bP t o.dst e.val) (e.upd++h):=by
 obtain ⟨dst,op,guard,af⟩:=o
 cases op<;>first|(simp [pW] at hp;done)|rfl
theorem ahZ {nm:Nat} {o:aG} {t:List (Nat×AV)} {h:List (Nat×Ob)} {k:Rec->Prop} (hp:pW o.op=true):
 pG P nm o t h k=onE (aL nm t h o.op) fun e=>k ⟨e.val,e.upd,dK t o.op⟩:=by
 obtain ⟨dst,op,guard,af⟩:=o
 cases op<;>first|(simp [pW] at hp;done)|rfl
theorem ah0 (hrun:fI P run) {nm:Nat} {o:aG} {t:List (Nat×AV)} {h:List (Nat×Ob)} {r:Rec} (e:jr run nm o t h=some r) (Q:List (Nat×AV)->List (Nat×Ob)->Prop)
 (hQ:Q (bP t o.dst r.val) (r.upd++h)):jG P nm o t h Q:=by
 cases hp:pW o.op with
 |true=>
  rw [ZY hp] at e
  rw [Z0 hp]
  exact ahX e (fun t h e=>Q (bP t o.dst e.val) (e.upd++h)) fun _=>hQ
 |false=>
  obtain ⟨dst,op,guard,af⟩:=o
  cases op
  case call f args=>
   simp only [jr] at e
   simp only [jG]
   split at e
   ·rename_i g caps hf
    split at e
    ·rename_i xs hx
     rw [hf,hx]
     split at e
     ·rename_i hg
      simp only [j6,if_pos hg]
      exact (qM hrun e) h (fun _ _=>rfl) _ hQ
     ·rename_i hg
      split at e
      ·rename_i hg2
       simp only [j6,if_neg hg,if_pos hg2]
       exact (qM hrun e) h (fun _ _=>rfl) _ hQ
      ·cases e
    ·cases e
   ·cases e
  case lM neg x=>
   simp only [jr] at e
   simp only [jG]
   split at e
   ·rename_i b hb
    cases e
    rw [hb]
    exact hQ
   ·cases e
  all_goals simp [pW] at hp
theorem ah1 (hrun:fI P run) {nm:Nat} {o:aG} {t:List (Nat×AV)} {h:List (Nat×Ob)} {r:Rec} (e:jr run nm o t h=some r) (k:Rec->Prop) (hk:k r):pG P nm o t h k:=by
 cases hp:pW o.op with
 |true=>
  rw [ZY hp] at e
  rw [ahZ hp]
  exact ahY e k hk
 |false=>
  obtain ⟨dst,op,guard,af⟩:=o
  cases op
  case call f args=>
   simp only [jr] at e
   simp only [pG]
   split at e
   ·rename_i g caps hf
    split at e
    ·rename_i xs hx
     rw [hf,hx]
     split at e
     ·rename_i hg
      simp only [j6,if_pos hg]
      exact ⟨r,qM hrun e,hk⟩
     ·rename_i hg
      split at e
      ·rename_i hg2
       simp only [j6,if_neg hg,if_pos hg2]
       exact ⟨r,qM hrun e,hk⟩
      ·cases e
    ·cases e
   ·cases e
  case lM neg x=>
   simp only [jr] at e
   simp only [pG]
   split at e
   ·rename_i b hb
    cases e
    rw [hb]
    exact hk
   ·cases e
  all_goals simp [pW] at hp
noncomputable def uy {α:Type} (l:List (Nat×α)) (k:Nat):Option α:= @List.rec (Nat×α) (fun _=>Option α) none (fun p _ ih=>cond (Nat.beq p.1 k) (some p.2) ih) l
theorem vY {α:Type}:∀ (l:List (Nat×α)) (k:Nat),uy l k=get l k
 |[],k=>rfl
 |(j,x)::l,k=>by
  show cond (Nat.beq j k) (some x) (uy l k)=if j=k then some x else get l k
  rw [vY l k]
  cases hb:Nat.beq j k with
  |true=>rw [if_pos (Nat.eq_of_beq_eq_true hb)];rfl
  |false=>rw [if_neg (Nat.ne_of_beq_eq_false hb)];rfl
abbrev pX:=RunT->Nat->List (Nat×AV)->List (Nat×Ob)->Option Rec
noncomputable def lU (x:Operand) (t:List (Nat×AV)):Option AV:=match x with
 | .tmp k=>uy t k
 |x=>ev t x
theorem uz (x:Operand) (t:List (Nat×AV)):lU x t=ev t x:=by
 cases x<;>first|rfl|(simp only [lU,ev,vY])
noncomputable def sj (x:AV):Bool:= @AV.rec (fun _=>Bool) (fun _=>Bool) (fun _=>Bool) (fun _=>true) (fun _ ih=>ih) (fun _ ih=>ih) (fun _ _ _=>true) (fun _ _ _ _=>false) (fun _ _=>false) (fun _ _ _ _=>false) (fun _ _ _=>true) (fun _=>false) (fun _ _ ih=>ih) true (fun _ _ a b=>cond a b false) true (fun _ _ _ _=>true) x
noncomputable def pY (l:List AV):Bool:= @List.rec AV (fun _=>Bool) true (fun c _ ih=>cond (sj c) ih false) l
theorem Z4 (x:AV):sj x=x.pure:=by
 refine AV.rec (motive_1:=fun x=>sj x=x.pure) (motive_2:=fun xs=>(@AV.rec_1 (fun _=>Bool) (fun _=>Bool) (fun _=>Bool) (fun _=>true) (fun _ ih=>ih) (fun _ ih=>ih) (fun _ _ _=>true) (fun _ _ _ _=>false) (fun _ _=>false) (fun _ _ _ _=>false) (fun _ _ _=>true) (fun _=>false) (fun _ _ ih=>ih) true (fun _ _ a b=>cond a b false) true (fun _ _ _ _=>true) xs)=dx xs) (motive_3:=fun _=>True) ?_ ?_ ?_ ?_ ?_ ?_ ?_ ?_ ?_ ?_ ?_ ?_ ?_ ?_ x
 case refine_2=>intro cs ih;rw [AV.pure];exact ih
 case refine_3=>intro cs ih;rw [AV.pure];exact ih
 case refine_10=>intro f cs ih;rw [AV.pure];exact ih
 case refine_11=>simp only [dx]
 case refine_12=>
  intro c cs a b
  simp only [dx]
  rw [<-a,<-b]
  cases hb:sj c
  ·show cond (sj c) _ false=_
   rw [hb];rfl
  ·show cond (sj c) _ false=_
   rw [hb];rfl
 all_goals intros;first|trivial|(simp only [AV.pure];rfl)
theorem CR:∀ l:List AV,pY l=dx l
 |[]=>by simp only [dx];rfl
 |c::l=>by
  simp only [dx]
  show cond (sj c) (pY l) false=_
  rw [Z4,CR l]
  cases c.pure<;>rfl
noncomputable def jR (h:List (Nat×Ob)) (b:Nat):Bool:=match uy h b with
 |some (.box _)=>false
 |_=>true
theorem yj {h:List (Nat×Ob)} {S:List (Nat×Nat)} {b:Nat} (e:jR h b=true):nS h S b=true:=by
 simp only [jR,vY] at e
 unfold nS
 split
 ·rename_i hh;rw [hh] at e;cases e
 ·rfl
theorem ah2 {h:List (Nat×Ob)} (h0:jR h 0=true) (h1:jR h 1=true) (h2:jR h 2=true) (h3:jR h 3=true):iD h [] [] []=true:=by
 simp [iD,yj h0,yj h1,yj h2,yj h3]
theorem ah3 {h:List (Nat×Ob)} {o:Ob} (h1:jR h 1=true) (h2:jR h 2=true) (h3:jR h 3=true):iD h [(0,0)] [] [(0,o)]=true:=by
 have h0:nS h [(0,0)] 0=true:=by
  unfold nS
  split<;>simp [get]
 simp [iD,h0,yj h1,yj h2,yj h3]
noncomputable def tb (b:Nat) (x:AV):Option AV:=match x with
 | .ptr b' j=>cond (Nat.beq b' b) (some (.ptr 0 j)) none
 |x=>cond (sj x) (some x) none
noncomputable def PS (b:Nat) (l:List AV):Option (List AV):= @List.rec AV (fun _=>Option (List AV)) (some []) (fun c _ ih=>match tb b c with
 |some c'=>(match ih with
  |some l'=>some (c'::l')
  |none=>none)
 |none=>none) l
theorem ah4 {b:Nat} {x y:AV} (e:tb b y=some x):(∃ j,y= .ptr b j/\x= .ptr 0 j)\/(x=y/\x.pure=true):=by
 have hg:∀ z:AV,cond (sj z) (some z) none=some x->x=z/\x.pure=true:=by
  intro z hz
  cases hp:sj z with
  |true=>rw [hp] at hz;cases hz;exact ⟨rfl,by rw [<-Z4];exact hp⟩
  |false=>rw [hp] at hz;cases hz
 cases y
 case ptr b' j=>
  have e:cond (Nat.beq b' b) (some (AV.ptr 0 j)) none=some x:=e
  cases hb:Nat.beq b' b with
  |true=>rw [hb] at e;cases e;exact .inl ⟨j,by rw [Nat.eq_of_beq_eq_true hb],rfl⟩
  |false=>rw [hb] at e;cases e
 all_goals exact .inr (hg _ e)
theorem Z5 {b:Nat}:∀ (ys xs:List AV),PS b ys=some xs->iW [b] xs ys
 |[],xs,e=>by
  cases e
  simp only [iW]
 |y::ys,xs,e=>by
  have e:(match tb b y with
   |some c'=>(match PS b ys with
    |some l'=>some (c'::l')
    |none=>none)
   |none=>none)=some xs:=e
  split at e
  ·rename_i c' hc
   split at e
   ·rename_i l' hl
    cases e
    have ht:=Z5 ys l' hl
    rcases ah4 hc with ⟨j,rfl,rfl⟩|⟨rfl,hp⟩
    ·simp only [iW]
     exact ⟨rfl,ht⟩
    ·cases c'<;>first|(simp [AV.pure] at hp;done)|(simp only [iW];first|exact ⟨⟨rfl,hp⟩,ht⟩|exact ⟨⟨trivial,hp⟩,ht⟩)
   ·cases e
  ·cases e
noncomputable def fp (l:List AV):Option Nat:= @List.rec AV (fun _=>Option Nat) none (fun c _ ih=>match c with
 | .ptr b _=>some b
 |_=>ih) l
noncomputable def ah5 (nm:Nat) (vs:List AV) (h':List (Nat×Ob)):Option Rec:=match ol 0 (vW 0 h' vs).eraseDups vs h' with
 |some (r,_,es)=>bif decide (es.length<=8)&&dX es.length r then some ⟨sh nm r,dB nm es,[]⟩ else none
 |none=>none
noncomputable def n4 (h:List (Nat×Ob)):Bool:=cond (jR h 1) (cond (jR h 2) (jR h 3) false) false
theorem Z6 {h:List (Nat×Ob)} (e:n4 h=true):jR h 1=true/\jR h 2=true/\jR h 3=true:=by
 unfold n4 at e
 cases h1:jR h 1<;>rw [h1] at e<;>try cases e
 cases h2:jR h 2<;>rw [h2] at e<;>try cases e
 exact ⟨rfl,rfl,e⟩
noncomputable def IE (run:RunT) (nm:Nat) (h:List (Nat×Ob)) (f:FuncId) (ys:List AV):Option Rec:=
 cond (pY ys) (match run f ys [] [] with
  |some (vs,h')=>cond (and (pY vs) (and (jR h' 0) (n4 h'))) (some ⟨ay vs,[],[]⟩) (ah5 nm vs h')
  |none=>none) (match fp ys with
  |some b=>(match PS b ys with
   |some xs=>(match uy h b with
    |some (.box cs)=>cond (pY cs) (match run f xs [cs] [] with
     |some (vs,h')=>(match uy h' 0 with
      |some (.box cs')=>cond (and (pY vs) (and (pY cs') (n4 h'))) (some ⟨ay vs,[(b,.box cs')],[b]⟩) (pV run nm h f ys)
      |_=>pV run nm h f ys)
     |none=>none) (pV run nm h f ys)
    |_=>pV run nm h f ys)
   |none=>pV run nm h f ys)
  |none=>pV run nm h f ys)
theorem CS:∀ (vs:List AV),dx vs=true->(ay vs).pure=true
 |[],h=>by simp [ay,AV.pure,dx]
 |[x],h=>by simpa [ay,dx] using h
 |x::y::l,h=>by simpa [ay,AV.pure] using h
theorem Z7 {P:Program} {run:RunT} (hrun:fI P run) {nm:Nat} {h:List (Nat×Ob)} {f:FuncId} {ys:List AV} {r:Rec} (e:IE run nm h f ys=some r):jH P nm f ys h r:=by
 unfold IE at e
 cases hp:pY ys with
 |true=>
  rw [hp] at e
  simp only [cond_true] at e
  rw [CR] at hp
  split at e
  ·rename_i vs h' hr
   cases hc:(and (pY vs) (and (jR h' 0) (n4 h'))) with
   |true=>
    rw [hc] at e
    cases e
    simp only [Bool.and_eq_true] at hc
    obtain ⟨hv,h0,h1⟩:=hc
    obtain ⟨h1,h2,h3⟩:=Z6 h1
    rw [CR] at hv
    obtain ⟨t,res,hv',hrun'⟩:=hrun _ _ _ _ _ _ hr
    exact Fn.Ib (hrun' _ _ _ (Fin.bI vs hv' (ah2 h0 h1 h2 h3) (CS vs hv) rfl)).Cy hp (CS vs hv)
   |false=>
    rw [hc] at e
    simp only [cond_false] at e
    refine qM hrun (?_:pV run nm h f ys=some r)
    unfold pV
    rw [hp,hr]
    exact e
  ·cases e
 |false=>
  rw [hp] at e
  simp only [cond_false] at e
  split at e
  ·rename_i b hb
   split at e
   ·rename_i xs hx
    split at e
    ·rename_i cs hcs
     rw [vY] at hcs
     cases hpc:pY cs with
     |true=>
      rw [hpc] at e
      simp only [cond_true] at e
      rw [CR] at hpc
      split at e
      ·rename_i vs h' hr
       split at e
       ·rename_i cs' hcs'
        rw [vY] at hcs'
        cases hc:(and (pY vs) (and (pY cs') (n4 h'))) with
        |true=>
         rw [hc] at e
         cases e
         simp only [Bool.and_eq_true] at hc
         obtain ⟨hv,hc',h1⟩:=hc
         obtain ⟨h1,h2,h3⟩:=Z6 h1
         rw [CR] at hv hc'
         obtain ⟨t,res,hv',hrun'⟩:=hrun _ _ _ _ _ _ hr
         have hF:=(hrun' _ _ _ (Fin.mQ vs hv' hcs' (ah3 h1 h2 h3) (CS vs hv) hc' rfl rfl)).Cy
         have:=hF.ug (h:=h) nm [b] [cs'] (Z5 ys xs hx) (by simp only [pK,and_true,hcs];exact xX cs hpc) (by simp) (by simp) rfl (Ia [cs'] (by simp only [xV,hc',Bool.and_true])) rfl (by simp) (Ad _ (CS vs hv))
         rw [Ci nm _ (CS vs hv)] at this
         exact this
        |false=>
         rw [hc] at e
         exact qM hrun e
       ·exact qM hrun e
      ·cases e
     |false=>
      rw [hpc] at e
      exact qM hrun e
    ·exact qM hrun e
   ·exact qM hrun e
  ·exact qM hrun e
noncomputable def yt:gm->pX:=fun op run nm t h=>jr run nm ⟨none,op,none,[]⟩ t h
noncomputable def uD (cs:List AV) (n:Nat):Bool:= @List.rec AV (fun _=>Nat->Bool) (fun n=>Nat.beq n 0) (fun _ _ ih n=>cond (Nat.beq n 0) false (ih (Nat.pred n))) cs n
noncomputable def IG (cs:List AV):Nat:= @List.rec AV (fun _=>Nat) 0 (fun _ _ ih=>Nat.add ih 1) cs
noncomputable def II (cs:List AV) (n:Nat):List AV:= @List.rec AV (fun _=>Nat->List AV) (fun _=>[]) (fun c _ ih n=>cond (Nat.beq n 0) [] (c::ih (Nat.pred n))) cs n
noncomputable def CU (cs:List AV) (n:Nat):List AV:= @List.rec AV (fun _=>Nat->List AV) (fun _=>[]) (fun c l ih n=>cond (Nat.beq n 0) (c::l) (ih (Nat.pred n))) cs n
noncomputable def IJ (cs:List AV) (n:Nat):Option AV:= @List.rec AV (fun _=>Nat->Option AV) (fun _=>none) (fun c _ ih n=>cond (Nat.beq n 0) (some c) (ih (Nat.pred n))) cs n
noncomputable def CV (cs ds:List AV):List AV:= @List.rec AV (fun _=>List AV) ds (fun c _ ih=>c::ih) cs
theorem CW:∀ (cs:List AV) (n:Nat),uD cs n=true->cs.length=n
 |[],n,e=>(Nat.eq_of_beq_eq_true (show Nat.beq n 0=true from e)).symm
 |c::cs,n,e=>by
  have e:cond (Nat.beq n 0) false (uD cs (Nat.pred n))=true:=e
  cases n with
  |zero=>cases e
  |succ n=>rw [List.length_cons,CW cs n e]
theorem PU:∀ cs:List AV,IG cs=cs.length
 |[]=>rfl
 |c::cs=>by show IG cs+1=_;rw [PU cs];rfl
theorem PV:∀ (cs:List AV) (n:Nat),II cs n=cs.take n
 |[],n=>by rw [List.take_nil];rfl
 |c::cs,0=>rfl
 |c::cs,n+1=>by show c::II cs n=_;rw [PV cs n];rfl
theorem IK:∀ (cs:List AV) (n:Nat),CU cs n=cs.drop n
 |[],n=>by rw [List.drop_nil];rfl
 |c::cs,0=>rfl
 |c::cs,n+1=>by show CU cs n=_;rw [IK cs n];rfl
theorem PW:∀ (cs:List AV) (n:Nat),IJ cs n=cs[n]?
 |[],n=>rfl
 |c::cs,0=>rfl
 |c::cs,n+1=>by show IJ cs n=_;rw [PW cs n];rfl
theorem Z8 (cs ds:List AV):CV cs ds=cs++ds:=by
 induction cs with
 |nil=>rfl
 |cons c cs ih=>show c::CV cs ds=_;rw [ih];rfl
noncomputable def IL (l:List AV):Bool:= @List.rec AV (fun _=>Bool) true (fun c _ ih=>cond c.one ih false) l
theorem Z9:∀ l:List AV,IL l=mG l
 |[]=>rfl
 |c::l=>by
  show cond c.one (IL l) false=(c.one&&mG l)
  rw [Z9 l];cases c.one<;>rfl
noncomputable def PX (x:AV):Option (List AV):=match x with
 | .agg cs=>cond (IL cs) (some cs) none
 |x=>cond x.one (some [x]) none
theorem aac (x:AV):PX x=mH x:=by
 have hg:∀ y:AV,cond y.one (some [y]) none=if y.one=true then some [y] else none:=fun y=>by cases y.one<;>rfl
 cases x
 case agg cs=>
  show cond (IL cs) (some cs) none=if mG cs=true then some cs else none
  rw [Z9];cases mG cs<;>rfl
 all_goals first|rfl|exact hg (.v _)|exact hg (.aF _)|exact hg (.sl _ _)|exact hg (.own _ _ _ _)|exact hg (.ptr _ _)|exact hg (.rp _ _ _ _)|exact hg (.dG _ _)|exact hg (.mp _)|exact hg (.fn _ _)
noncomputable def PY (cs:List AV) (j:Nat) (ys:List AV) (sz:Nat):List AV:=cond (Nat.beq j 0) (cond (uD cs sz) ys (CV ys (CU cs sz))) (CV (II cs j) (CV ys (CU cs (Nat.add j sz))))
theorem ah6 {cs:List AV} {j:Nat} {ys:List AV} {sz:Nat} (e:uD ys sz=true):PY cs j ys sz=splice cs j ys:=by
 have hl:=CW ys sz e
 subst hl
 unfold PY splice
 cases hj:Nat.beq j 0 with
 |true=>
  have:=Nat.eq_of_beq_eq_true hj;subst this
  cases hc:uD cs ys.length with
  |true=>
   have:=CW _ _ hc
   simp [List.drop_eq_nil_of_le,this]
  |false=>simp [Z8,IK]
 |false=>simp [Z8,IK,PV]
noncomputable def PZ (f:Operand) (args:List Operand):pX:=fun run nm t h=>match lU f t with
 |some (.fn g caps)=>(match jZ t args with
  |some xs=>cond (Nat.blt g 1000000) (IE run nm h g (xs++caps)) (cond (Nat.blt g 2000000) (IE run nm h (g - 1000000) (caps++xs)) none)
  |none=>none)
 |_=>none
noncomputable def aad (op:BinOp) (k:IntKind) (a b:Int):Option Value:=match op with
 | .add=>some (.int k (k.wrap (a+b)))
 | .sub=>some (.int k (k.wrap (a - b)))
 | .eql=>some (.bool (a==b))
 | .neq=>some (.bool (a !=b))
 | .lss=>some (.bool (decide (a<b)))
 | .leq=>some (.bool (decide (a<=b)))
 | .gtr=>some (.bool (decide (b<a)))
 | .geq=>some (.bool (decide (b<=a)))
 |_=>none
noncomputable def aae (op:BinOp) (x y:Operand):pX:=fun run nm t h=>match lU x t with
 |some (.v (.int .i64 a))=>(match lU y t with
  |some (.v (.int .i64 b))=>(match aad op .i64 a b with
   |some c=>some ⟨.v c,[],[]⟩
   |none=>yt (.bin op x y) run nm t h)
  |_=>yt (.bin op x y) run nm t h)
 |_=>yt (.bin op x y) run nm t h
theorem ah7 {op:BinOp} {a b:Int} {c:Value} (e:aad op .i64 a b=some c):Ct op (.int .i64 a) (.int .i64 b)=some c/\kM op (.int .i64 a) (.int .i64 b)=some c:=by
 cases op<;>first|(cases e;exact ⟨rfl,rfl⟩)|cases e
noncomputable def aaf (x:Operand):pX:=fun _ _ t _=>match lU x t with
 |some y=>some ⟨y,[],[]⟩
 |none=>none
noncomputable def aag (c a b:Operand):pX:=fun _ _ t _=>match lU c t with
 |some (.v (.bool true))=>(match lU a t with
  |some y=>some ⟨y,[],[]⟩
  |none=>none)
 |some (.v (.bool false))=>(match lU b t with
  |some y=>some ⟨y,[],[]⟩
  |none=>none)
 |_=>none
noncomputable def ah8 (zs:List Value):pX:=fun _ nm _ _=>some ⟨.ptr nm 0,[(nm,.box (zs.map .v))],[]⟩
noncomputable def aah (x:Operand):pX:=fun _ nm t _=>match lU x t with
 |some y=>(match PX y with
  |some ys=>some ⟨.ptr nm 0,[(nm,.box ys)],[]⟩
  |none=>none)
 |none=>none
noncomputable def aai (ag:Bool) (sz:Nat) (x:Operand):pX:=fun run nm t h=>match lU x t with
 |some (.ptr b j)=>(match uy h b with
  |some (.box cs)=>cond ag (cond (and (Nat.beq j 0) (uD cs sz)) (some ⟨.agg cs,[],[b]⟩) (cond (Nat.ble (Nat.add j sz) (IG cs)) (some ⟨.agg (II (CU cs j) sz),[],[b]⟩) none)) (match IJ cs j with
   |some c=>some ⟨c,[],[b]⟩
   |none=>none)
  |_=>none)
 |_=>yt (.load ag sz x) run nm t h
noncomputable def aaj (sz:Nat) (x y:Operand):pX:=fun run nm t h=>match lU x t with
 |some (.ptr b j)=>(match lU y t with
  |some z=>(match uy h b with
   |some (.box cs)=>(match PX z with
    |some ys=>cond (and (uD ys sz) (Nat.ble (Nat.add j sz) (IG cs))) (some ⟨.v undef,[(b,.box (PY cs j ys sz))],[b]⟩) none
    |none=>none)
   |_=>none)
  |none=>none)
 |_=>yt (.store sz x y) run nm t h
noncomputable def aak (off:Nat) (x:Operand):pX:=fun run nm t h=>match lU x t with
 |some (.ptr b j)=>(match uy h b with
  |some (.box _)=>some ⟨.ptr b (j+off),[],[b]⟩
  |_=>none)
 |_=>yt (.lu off x) run nm t h
noncomputable def aal (i:Nat) (x:Operand):pX:=fun _ _ t _=>match lU x t with
 |some (.aF cs)=>(match IJ cs i with
  |some c=>some ⟨c,[],[]⟩
  |none=>none)
 |_=>none
noncomputable def uE (op:gm):pX:=match op with
 | .jE x=>aaf x
 | .pick c a b=>aag c a b
 | .alloc zs=>ah8 zs
 | .box x=>aah x
 | .load ag sz x=>aai ag sz x
 | .store sz x y=>aaj sz x y
 | .lu off x=>aak off x
 | .ext i x=>aal i x
 | .call f args=>PZ f args
 | .bin op x y=>aae op x y
 |op=>yt op
noncomputable def yu (run:RunT) (nm:Nat) (o:aG) (t:List (Nat×AV)) (h:List (Nat×Ob)):Option Rec:=uE o.op run nm t h
theorem ah9 {run:RunT} {nm:Nat} {o:aG} {t:List (Nat×AV)} {h:List (Nat×Ob)}:jr run nm o t h=jr run nm ⟨none,o.op,none,[]⟩ t h:=rfl
theorem aam {run:RunT} {nm:Nat} {o:aG} {t:List (Nat×AV)} {h:List (Nat×Ob)} {r:Rec} (hc:∀ f l,o.op≠.call f l) (e:yu run nm o t h=some r):jr run nm o t h=some r:=by
 rw [ah9]
 obtain ⟨dst,op,guard,af⟩:=o
 simp only [yu] at e
 show jr run nm ⟨none,op,none,[]⟩ t h=some r
 cases op
 case call f l=>exact (hc f l rfl).elim
 case jE x=>
  simp only [uE,aaf,uz] at e
  simp only [jr,ku,aL]
  cases hx:ev t x with
  |none=>rw [hx] at e;cases e
  |some y=>rw [hx] at e;exact e
 case pick c a b=>
  simp only [uE,aag,uz] at e
  simp only [jr,ku,aL]
  split at e
  ·rename_i hc
   rw [hc]
   cases hx:ev t a with
   |none=>rw [hx] at e;cases e
   |some y=>rw [hx] at e;exact e
  ·rename_i hc
   rw [hc]
   cases hx:ev t b with
   |none=>rw [hx] at e;cases e
   |some y=>rw [hx] at e;exact e
  ·cases e
 case alloc zs=>exact e
 case box x=>
  simp only [uE,aah,uz,aac] at e
  simp only [jr,ku,aL]
  cases hx:ev t x with
  |none=>rw [hx] at e;cases e
  |some y=>
   rw [hx] at e
   simp only at e ⊢
   cases hy:mH y with
   |none=>rw [hy] at e;cases e
   |some ys=>rw [hy] at e;exact e
 case ext i x=>
  simp only [uE,aal,uz,PW] at e
  simp only [jr,ku,aL]
  split at e
  ·rename_i cs hc
   rw [hc]
   simp only
   cases hx:cs[i]? with
   |none=>rw [hx] at e;cases e
   |some y=>rw [hx] at e;exact e
  ·cases e
 case lu off x=>
  simp only [uE,aak,uz,vY] at e
  split at e
  ·rename_i b j hb
   split at e
   ·rename_i cs hc
    simp only [jr,ku,aL,preB,dK,hb,hc]
    exact e
   ·cases e
  ·exact e
 case bin op x y=>
  simp only [uE,aae,uz] at e
  split at e
  ·rename_i a ha
   split at e
   ·rename_i b hb
    split at e
    ·rename_i c hc
     obtain ⟨h1,h2⟩:=ah7 hc
     simp only [jr,ku,preB,dK,ha,hb,h1,h2]
     exact e
    ·exact e
   ·exact e
  ·exact e
 case load ag sz x=>
  simp only [uE,aai,uz,vY,PW,PV,IK,PU] at e
  split at e
  ·rename_i b j hb
   split at e
   ·rename_i cs hc
    simp only [jr,ku,aL,preB,dK,hb,hc]
    cases ag with
    |true=>
     simp only [cond_true] at e
     cases hj:(and (Nat.beq j 0) (uD cs sz)) with
     |true=>
      rw [hj] at e
      rw [Bool.and_eq_true] at hj
      have h1:=Nat.eq_of_beq_eq_true hj.1
      have h2:=CW _ _ hj.2
      subst h1
      rw [if_pos rfl,if_pos (by omega),List.drop_zero,List.take_of_length_le (by omega)]
      exact e
     |false=>
     rw [hj] at e
     simp only [cond_false] at e
     cases hl:Nat.ble (Nat.add j sz) cs.length with
     |true=>
      have hl':j+sz<=cs.length:=Nat.le_of_ble_eq_true hl
      rw [hl] at e;rw [if_pos rfl,if_pos hl'];exact e
     |false=>rw [hl] at e;cases e
    |false=>
     simp only [cond_false] at e
     rw [if_neg (by simp)]
     cases hx:cs[j]? with
     |none=>rw [hx] at e;cases e
     |some y=>rw [hx] at e;exact e
   ·cases e
  ·exact e
 case store sz x y=>
  simp only [uE,aaj,uz,vY,aac,PU] at e
  split at e
  ·rename_i b j hb
   split at e
   ·rename_i z hz
    split at e
    ·rename_i cs hc
     split at e
     ·rename_i ys hy
      cases hl:(and (uD ys sz) (Nat.ble (Nat.add j sz) cs.length)) with
      |false=>rw [hl] at e;cases e
      |true=>
       rw [hl] at e
       rw [Bool.and_eq_true] at hl
       have h1:=CW _ _ hl.1
       have h2:j+sz<=cs.length:=Nat.le_of_ble_eq_true hl.2
       rw [ah6 hl.1] at e
       simp only [jr,ku,aL,preB,dK,hb,hz,hc,hy,if_pos (And.intro h1 h2)]
       exact e
     ·cases e
    ·cases e
   ·cases e
  ·exact e
 all_goals exact e
theorem aan (hrun:fI P run) {f:Operand} {args:List Operand} {nm:Nat} {t:List (Nat×AV)} {h:List (Nat×Ob)} {r:Rec} (e:PZ f args run nm t h=some r):
 j6 (ev t f) (jZ t args) fun g xs=>jH P nm g xs h r:=by
 simp only [PZ,uz] at e
 split at e
 ·rename_i g caps hf
  split at e
  ·rename_i xs hx
   rw [hf,hx]
   cases hg:Nat.blt g 1000000 with
   |true=>
    rw [hg] at e
    have hg':g<1000000:=Nat.le_of_ble_eq_true hg
    simp only [j6]
    rw [if_pos hg']
    exact Z7 hrun e
   |false=>
    rw [hg] at e
    have hn:¬ g<1000000:=fun hh=>by rw [show Nat.blt g 1000000=true from Nat.ble_eq_true_of_le hh] at hg;cases hg
    cases hg2:Nat.blt g 2000000 with
    |true=>
     rw [hg2] at e
     have hg':g<2000000:=Nat.le_of_ble_eq_true hg2
     simp only [j6]
     rw [if_neg hn,if_pos hg']
     exact Z7 hrun e
    |false=>rw [hg2] at e;cases e
  ·cases e
 ·cases e
theorem aao {f:Option AV} {l:Option (List AV)} {p q:FuncId->List AV->Prop} (h:∀ g xs,p g xs->q g xs) (e:j6 f l p):j6 f l q:=by
 revert e
 unfold j6
 split
 ·rename_i g caps xs
  intro e
  by_cases h1:g<1000000
  ·rw [if_pos h1] at e ⊢;exact h _ _ e
  ·rw [if_neg h1] at e ⊢
   by_cases h2:g<2000000
   ·rw [if_pos h2] at e ⊢;exact h _ _ e
   ·rw [if_neg h2] at e;exact e.elim
 ·exact id
theorem aia (hrun:fI P run) {nm:Nat} {o:aG} {t:List (Nat×AV)} {h:List (Nat×Ob)} {r:Rec} (e:yu run nm o t h=some r) (Q:List (Nat×AV)->List (Nat×Ob)->Prop)
 (hQ:Q (bP t o.dst r.val) (r.upd++h)):jG P nm o t h Q:=by
 by_cases hc:∀ f l,o.op≠.call f l
 ·exact ah0 hrun (aam hc e) Q hQ
 ·obtain ⟨dst,op,guard,af⟩:=o
  cases op
  case call f l=>
   have:=aan (P:=P) hrun (f:=f) (args:=l) e
   simp only [jG]
   exact aao (fun g xs hg=>hg h (fun _ _=>rfl) _ hQ) this
  all_goals exact (hc (fun f l hh=>gm.noConfusion hh)).elim
theorem aap (hrun:fI P run) {nm:Nat} {o:aG} {t:List (Nat×AV)} {h:List (Nat×Ob)} {r:Rec} (e:yu run nm o t h=some r) (k:Rec->Prop) (hk:k r):pG P nm o t h k:=by
 by_cases hc:∀ f l,o.op≠.call f l
 ·exact ah1 hrun (aam hc e) k hk
 ·obtain ⟨dst,op,guard,af⟩:=o
  cases op
  case call f l=>
   have:=aan (P:=P) hrun (f:=f) (args:=l) e
   simp only [pG]
   exact aao (fun g xs hg=>⟨r,hg,hk⟩) this
  all_goals exact (hc (fun f l hh=>gm.noConfusion hh)).elim
def IQ (t:List (Nat×AV)) (h:List (Nat×Ob)) (op:gm):List Nat:=
 (match op with
  | .store _ _ y=>P5 (ev t y)
  | .lq _ _ _ _ ps=>ps.flatMap fun (p:Nat×Operand)=>P5 (ev t p.2)
  | .lN _ _ x=>P5 (ev t x)
  |_=>[]).filter fun b=>match get h b with
   |some (.row _ _ _)=>true
   |_=>false
where
 P5:Option AV->List Nat
  |some x=>deep x
  |none=>[]
noncomputable def IU (run:RunT) (nm:Nat) (o:aG) (t:List (Nat×AV)) (h:List (Nat×Ob)):Option (List (Nat×AV)×List (Nat×Ob)):=
 match yu run nm o t h with
 |some r=>some (bP t o.dst r.val,r.upd++h)
 |none=>bif (IQ t h o.op).isEmpty then none else match ku nm t h o.op with
  |some _=>none
  |none=>match Cx (IQ t h o.op) t h with
   |some (t1,h1)=>match ku nm t1 h1 o.op with
    |some e=>bif preB t1 h1 o.op then some (bP t1 o.dst e.val,e.upd++h1) else none
    |none=>none
   |none=>none
theorem aaq (hrun:fI P run) {nm:Nat} {o:aG} {t t':List (Nat×AV)} {h h':List (Nat×Ob)} (e:IU run nm o t h=some (t',h')) (Q:List (Nat×AV)->List (Nat×Ob)->Prop)
 (hQ:Q t' h'):jG P nm o t h Q:=by
 simp only [IU] at e
 split at e
 ·rename_i r hr
  cases e
  exact aia hrun hr Q hQ
 ·cases hz:(IQ t h o.op).isEmpty with
  |true=>rw [hz] at e;cases e
  |false=>
   rw [hz] at e
   simp only [cond_false] at e
   split at e
   ·cases e
   ·rename_i hn
    split at e
    ·rename_i t1 h1 hf
     split at e
     ·rename_i e1 he
      cases hp:preB t1 h1 o.op with
      |false=>rw [hp] at e;cases e
      |true=>
       rw [hp] at e
       simp only [cond_true,Option.some.injEq,Prod.mk.injEq] at e
       obtain ⟨rfl,rfl⟩:=e
       have key:vF nm t h o.op (aL nm t h o.op) fun t h e=>Q (bP t o.dst e.val) (e.upd++h):=by
        have h3:aL nm t1 h1 o.op=some e1:=by rw [Iq];exact he
        have h2:=Pv h3 hp
        rw [Iq nm t h o.op,hn]
        refine ⟨t1,h1,ZG hf,?_⟩
        rw [h3]
        exact ⟨h2,hQ⟩
       cases hq:pW o.op with
       |true=>rw [Z0 hq];exact key
       |false=>
        obtain ⟨dst,op,guard,af⟩:=o
        cases op<;>first|(simp [IQ] at hz;done)|(simp [pW] at hq;done)
     ·cases e
    ·cases e
noncomputable def vZ (run:RunT):Nat->List aG->List (Nat×AV)->List (Nat×Ob)->Option (List (Nat×AV)×List (Nat×Ob))
 |_,[],t,h=>some (t,h)
 |nm,o::l,t,h=>match o.guard with
  |none=>match IU run nm o t h with
   |some (t',h')=>vZ run (nm+8) l t' h'
   |none=>none
  |some (g,want)=>match get t g with
   |some (.v (.bool b))=>bif b==want then (match IU run nm o t h with
    |some (t',h')=>vZ run (nm+8) l t' h'
    |none=>none) else vZ run (nm+8) l (bP t o.dst (.v undef)) h
   |some (.v (.tuple _))=>vZ run (nm+8) l (bP t o.dst (.v undef)) h
   |_=>none
theorem CX (hrun:fI P run):∀ (l:List aG) (nm:Nat) (t:List (Nat×AV)) (h:List (Nat×Ob)) (t':List (Nat×AV)) (h':List (Nat×Ob)),vZ run nm l t h=some (t',h')->
 ∀ Q:List (Nat×AV)->List (Nat×Ob)->Prop,Q t' h'->wpOps P nm l t h Q
 |[],nm,t,h,t',h',e,Q,hQ=>by simp only [vZ,Option.some.injEq,Prod.mk.injEq] at e;obtain ⟨rfl,rfl⟩:=e;simpa only [wpOps] using hQ
 |o::l,nm,t,h,t',h',e,Q,hQ=>by
  simp only [vZ] at e
  simp only [wpOps]
  split at e
  ·rename_i hg
   split at e
   ·rename_i t1 h1 hr
    simp only [hg]
    exact aaq hrun hr _ (CX hrun l _ _ _ _ _ e Q hQ)
   ·cases e
  ·rename_i g want hg
   simp only [hg]
   split at e
   ·rename_i b hb
    simp only [hb,pF]
    cases hw:(b==want) with
    |true=>
     rw [hw] at e
     simp only [cond_true] at e
     split at e
     ·rename_i t1 h1 hr
      have hh:=aaq hrun hr (fun t h=>wpOps P (nm+8) l t h Q) (CX hrun l _ _ _ _ _ e Q hQ)
      cases b<;>cases want<;>simp_all [Split]
     ·cases e
    |false=>
     rw [hw] at e
     simp only [cond_false] at e
     have hh:=CX hrun l _ _ _ _ _ e Q hQ
     cases b<;>cases want<;>simp_all [Split]
   ·rename_i vs hb
    simp only [hb]
    exact CX hrun l _ _ _ _ _ e Q hQ
   ·cases e
noncomputable def wh (run:RunT):Nat->List aG->List bQ->List (Nat×AV)->List (Nat×Ob)->Option (List bQ×List (Nat×AV)×List (Nat×Ob))
 |_,[],acc,t,h=>some (acc,t,h)
 |nm,o::l,acc,t,h=>match o.guard with
  |none=>match yu run nm o t h with
   |some r=>wh run (nm+8) l ((r.rd,r.upd.map Prod.fst)::acc) (bP t o.dst r.val) (r.upd++h)
   |none=>none
  |some (g,want)=>match get t g with
   |some (.v (.bool b))=>bif b==want then (match yu run nm o t h with
    |some r=>wh run (nm+8) l ((r.rd,r.upd.map Prod.fst)::acc) (bP t o.dst r.val) (r.upd++h)
    |none=>none) else wh run (nm+8) l (([],[])::acc) (bP t o.dst (.v undef)) h
   |some (.v (.tuple _))=>wh run (nm+8) l (([],[])::acc) (bP t o.dst (.v undef)) h
   |_=>none
theorem CY (hrun:fI P run):∀ (l:List aG) (nm:Nat) (acc:List bQ) (t:List (Nat×AV)) (h:List (Nat×Ob)) (acc':List bQ) (t':List (Nat×AV)) (h':List (Nat×Ob)),wh run nm l acc t h=some (acc',t',h')->
 ∀ Q:List bQ->List (Nat×AV)->List (Nat×Ob)->Prop,Q acc' t' h'->kN P nm l acc t h Q
 |[],nm,acc,t,h,acc',t',h',e,Q,hQ=>by simp only [wh,Option.some.injEq,Prod.mk.injEq] at e;obtain ⟨rfl,rfl,rfl⟩:=e;simpa only [kN] using hQ
 |o::l,nm,acc,t,h,acc',t',h',e,Q,hQ=>by
  simp only [wh] at e
  simp only [kN]
  split at e
  ·rename_i hg
   split at e
   ·rename_i r hr
    simp only [hg]
    exact aap hrun hr _ (CY hrun l _ _ _ _ _ _ _ e Q hQ)
   ·cases e
  ·rename_i g want hg
   simp only [hg]
   split at e
   ·rename_i b hb
    simp only [hb,pF]
    cases hw:(b==want) with
    |true=>
     rw [hw] at e
     simp only [cond_true] at e
     split at e
     ·rename_i r hr
      have hh:=aap hrun hr (fun r=>kN P (nm+8) l ((r.rd,r.upd.map Prod.fst)::acc) (bP t o.dst r.val) (r.upd++h) Q) (CY hrun l _ _ _ _ _ _ _ e Q hQ)
      cases b<;>cases want<;>simp_all [Split]
     ·cases e
    |false=>
     rw [hw] at e
     simp only [cond_false] at e
     have hh:=CY hrun l _ _ _ _ _ _ _ e Q hQ
     cases b<;>cases want<;>simp_all [Split]
   ·rename_i vs hb
    simp only [hb]
    exact CY hrun l _ _ _ _ _ _ _ e Q hQ
   ·cases e
end
structure oq where
 sc:eY
 res:List iJ
 nt:Nat
noncomputable def aar (t:List (Nat×AV)):Nat:= @List.rec (Nat×AV) (fun _=>Nat) 0 (fun _ _ ih=>Nat.add ih 1) t
noncomputable def sw (t:List (Nat×AV)) (h:List (Nat×Ob)):Option (List (Nat×AV)×List (Nat×Ob)):=cond (Nat.blt 90 (aar t)) (Cx [] t h) none
theorem aib {n:Nat} {t t':List (Nat×AV)} {h h':List (Nat×Ob)} (e:sw t h=some (t',h')):Wk ⟨n,t,h⟩ ⟨n,t',h'⟩:=by
 unfold sw at e
 cases hb:Nat.blt 90 (aar t) with
 |true=>rw [hb] at e;exact ahO e
 |false=>rw [hb] at e;cases e
noncomputable def sG (hk:RunT) (code:FuncId->Option oq) (ex:eY->St->Option (Exit×St)):RunT:=fun f xs bs gs=>
 match hk f xs bs gs with
 |some r=>some r
 |none=>match code f with
 |some F=>bif decide (xs.length<=F.nt) then match ex F.sc ⟨8,pJ 0 xs,outs bs gs⟩ with
  |some (.normal,s)=>match jO s.t s.h F.res with
   |some vs=>some (vs,s.h)
   |none=>none
  |some (.ret,s)=>match jO s.t s.h F.res with
   |some vs=>some (vs,s.h)
   |none=>none
  |_=>none else none
 |none=>none
noncomputable def exec (hk:RunT) (code:FuncId->Option oq):Nat->eY->St->Option (Exit×St)
 |0,_,_=>none
 |k+1,sc,s=>match sc with
  | .skip=>some (.normal,s)
  | .region ops true=>match wh (sG hk code (exec hk code k)) s.n ops [] s.t s.h with
   |some (acc,t,h)=>bif rT ops acc.reverse then some (.normal,⟨s.n+8*ops.length,t,h⟩) else none
   |none=>none
  | .region ops false=>match vZ (sG hk code (exec hk code k)) s.n ops s.t s.h with
   |some (t,h)=>some (.normal,⟨s.n+8*ops.length,t,h⟩)
   |none=>none
  | .seq a b=>match exec hk code k a s with
   |some (.normal,s')=>exec hk code k b s'
   |r=>r
  | .cond c x y=>match ev s.t c with
   |some (.v (.bool true))=>exec hk code k x s
   |some (.v (.bool false))=>exec hk code k y s
   |_=>none
  | .block id c=>match exec hk code k c s with
   |some (.exit i,s')=>some ((bif i==id then .normal else .exit i),s')
   |r=>r
  | .loop c=>match exec hk code k c s with
   |some (.normal,s')=>match sw s'.t s'.h with
    |some (t,h)=>exec hk code k (.loop c) ⟨s'.n,t,h⟩
    |none=>exec hk code k (.loop c) s'
   |r=>r
  | .exit id=>some (.exit id,s)
  | .ret=>some (.ret,s)
section
variable {P:Program} {hk:RunT} {code:FuncId->Option oq}
def P6 (P:Program) (ex:eY->St->Option (Exit×St)):Prop:=∀ sc s e s',ex sc s=some (e,s')->∀ Q:Exit->St->Prop,Q e s'->iq P sc Q s
def wm (P:Program) (code:FuncId->Option oq):Prop:=∀ f F,code f=some F->aA P f F.sc F.res F.nt
theorem uF (hh:fI P hk) (hc:wm P code) {ex:eY->St->Option (Exit×St)} (hx:P6 P ex):fI P (sG hk code ex):=by
 intro f xs bs gs vs h e
 simp only [sG] at e
 cases hq:hk f xs bs gs with
 |some r=>rw [hq] at e;cases e;exact hh _ _ _ _ _ _ hq
 |none=>
 rw [hq] at e
 simp only at e
 split at e
 ·rename_i F hf
  cases hl:decide (xs.length<=F.nt) with
  |false=>rw [hl] at e;cases e
  |true=>
   rw [hl] at e
   simp only [cond_true] at e
   split at e
   ·rename_i s hs
    split at e
    ·rename_i vs' hv
     cases e
     exact ⟨s.t,F.res,hv,fun r bs' es hF=>gu.aO (hc f F hf) (of_decide_eq_true hl) (hx _ _ _ _ hs _ hF)⟩
    ·cases e
   ·rename_i s hs
    split at e
    ·rename_i vs' hv
     cases e
     exact ⟨s.t,F.res,hv,fun r bs' es hF=>gu.aO (hc f F hf) (of_decide_eq_true hl) (hx _ _ _ _ hs _ hF)⟩
    ·cases e
   ·cases e
 ·cases e
theorem Wk.rfl' {s:St}:Wk s s:=fun C ρ U a w hr hU=>⟨ρ,U,hr,hU⟩
theorem aic:∀ (k:Nat) (c:eY) (s:St) (e:Exit) (s':St),exec hk code k (.loop c) s=some (e,s')->
 ∃ (n:Nat) (S:Nat->St),S 0=s/\(∀ i,i<n->∃ j s1,j<k/\exec hk code j c (S i)=some (.normal,s1)/\Wk s1 (S (i+1)))/\(∃ j,j<k/\exec hk code j c (S n)=some (e,s'))/\e≠.normal:=by
 intro k
 induction k with
 |zero=>intro c s e s' h;cases h
 |succ k ih=>
  intro c s e s' h
  have step:∀ s1 s2,exec hk code k c s=some (.normal,s1)->Wk s1 s2->exec hk code k (.loop c) s2=some (e,s')->∃ (n:Nat) (S:Nat->St),S 0=s/\(∀ i,i<n->∃ j s1,j<k+1/\exec hk code j c (S i)=some (.normal,s1)/\Wk s1 (S (i+1)))/\(∃ j,j<k+1/\exec hk code j c (S n)=some (e,s'))/\e≠.normal:=by
   intro s1 s2 h1 hw h
   obtain ⟨n,S,h2,h3,⟨j,hj,h4⟩,h5⟩:=ih c s2 e s' h
   refine ⟨n+1,fun i=>match i with|0=>s|i+1=>S i,rfl,fun i hi=> ?_,⟨j,by omega,h4⟩,h5⟩
   cases i with
   |zero=>exact ⟨k,s1,by omega,h1,by simp only [h2];exact hw⟩
   |succ i=>
    obtain ⟨j',s3,hj',h6,h7⟩:=h3 i (by omega)
    exact ⟨j',s3,by omega,h6,h7⟩
  simp only [exec] at h
  split at h
  ·rename_i s1 h1
   split at h
   ·rename_i t1 h2 hf
    exact step s1 _ h1 (aib (n:=s1.n) hf) h
   ·exact step s1 s1 h1 Wk.rfl' h
  ·rename_i hne
   refine ⟨0,fun _=>s,rfl,fun i hi=>absurd hi (by omega),⟨k,by omega,h⟩,?_⟩
   intro e0
   subst e0
   exact hne _ h
theorem yw (hh:fI P hk) (hc:wm P code):∀ k,P6 P (exec hk code k):=by
 intro k
 induction k using Nat.strongRecOn with
 |_ k P7=>
 cases k with
 |zero=>intro sc s e s' h;cases h
 |succ k=>
  have ih:P6 P (exec hk code k):=P7 k (by omega)
  intro sc s e s' h Q hQ
  cases sc with
  |skip=>simp only [exec,Option.some.injEq,Prod.mk.injEq] at h;obtain ⟨rfl,rfl⟩:=h;exact hQ
  |region ops draw=>
   cases draw with
   |true=>
    simp only [exec] at h
    split at h
    ·rename_i acc t h' hd
     cases ho:rT ops acc.reverse with
     |false=>rw [ho] at h;cases h
     |true=>
      rw [ho] at h
      simp only [cond_true,Option.some.injEq,Prod.mk.injEq] at h
      obtain ⟨rfl,rfl⟩:=h
      simp only [iq,if_true,GZ]
      exact CY (uF hh hc ih) _ _ _ _ _ _ _ _ hd _ ⟨ho,hQ⟩
    ·cases h
   |false=>
    simp only [exec] at h
    split at h
    ·rename_i t h' hd
     simp only [Option.some.injEq,Prod.mk.injEq] at h
     obtain ⟨rfl,rfl⟩:=h
     simp only [iq,Bool.false_eq_true,if_false]
     exact CX (uF hh hc ih) _ _ _ _ _ _ hd _ hQ
    ·cases h
  |seq a b=>
   simp only [exec] at h
   simp only [iq]
   split at h
   ·rename_i s1 h1
    exact ih _ _ _ _ h1 _ (ih _ _ _ _ h _ hQ)
   ·rename_i hne
    refine ih _ _ _ _ h _ ?_
    cases e with
    |normal=>exact absurd h (hne _)
    |_=>exact hQ
  |cond c x y=>
   simp only [exec] at h
   simp only [iq]
   split at h
   ·rename_i hb;rw [hb];exact ⟨fun _=>ih _ _ _ _ h _ hQ,fun hh=>by cases hh⟩
   ·rename_i hb;rw [hb];exact ⟨fun hh=>(by cases hh),fun _=>ih _ _ _ _ h _ hQ⟩
   ·cases h
  |block id c=>
   simp only [exec] at h
   simp only [iq]
   split at h
   ·rename_i i s1 h1
    simp only [Option.some.injEq,Prod.mk.injEq] at h
    obtain ⟨rfl,rfl⟩:=h
    refine ih _ _ _ _ h1 _ ?_
    simp only [BM]
    by_cases hi:i=id
    ·subst hi
     simpa using hQ
    ·rw [if_neg hi]
     have hb:(i==id)=false:=by simp [hi]
     rw [hb] at hQ
     exact hQ
   ·rename_i hne
    refine ih _ _ _ _ h _ ?_
    cases e with
    |exit i=>exact absurd h (hne _ _)
    |_=>exact hQ
  |loop c=>
   obtain ⟨n,S,h1,h2,⟨j,hj,h3⟩,h4⟩:=aic _ _ _ _ _ h
   simp only [iq]
   refine ⟨{i:Nat // i<=n},fun i=>S i.1,fun i=>n - i.1,⟨0,Nat.zero_le _⟩,fun C ρ U a w hr hU=>⟨ρ,U,by simp only [h1];exact hr,by simp only [h1];exact hU⟩,fun i=> ?_⟩
   obtain ⟨i,hi⟩:=i
   rcases Nat.lt_or_ge i n with hlt|hge
   ·obtain ⟨j',s1,hj',h5,h6⟩:=h2 i hlt
    exact P7 j' hj' _ _ _ _ h5 _ ⟨⟨i+1,hlt⟩,by simp only;omega,h6⟩
   ·have:i=n:=by omega
    subst this
    refine P7 j hj _ _ _ _ h3 _ ?_
    cases e with
    |normal=>exact absurd rfl h4
    |_=>exact hQ
  |exit id=>simp only [exec,Option.some.injEq,Prod.mk.injEq] at h;obtain ⟨rfl,rfl⟩:=h;exact hQ
  |ret=>simp only [exec,Option.some.injEq,Prod.mk.injEq] at h;obtain ⟨rfl,rfl⟩:=h;exact hQ
theorem P8 {m:Nat} {vs:List AV} {h:List (Nat×Ob)} {r:AV} {bs:List (List AV)} {es:List Ob} (e:ol m [] vs h=some (r,bs,es)):es=[]:=by
 unfold ol at e
 split at e
 ·split at e
  ·split at e
   ·rename_i es' he
    have h0:es'=[]:=by simpa [yc] using he.symm
    subst h0
    generalize (decide (m<=4)&&iD h (lT (List.range m)++uq [] 4) [] (outs _ []))=q at e
    cases q with
    |false=>cases e
    |true=>simp only [cond_true,Option.some.injEq,Prod.mk.injEq] at e;exact e.2.2.symm
   ·cases e
  ·cases e
 ·cases e
noncomputable def ou (hk:RunT) (code:FuncId->Option oq) (k:Nat) (f:FuncId) (xs:List AV):Option AV:=match sG hk code (exec hk code k) f xs [] [] with
 |some (vs,h)=>match ol 0 [] vs h with
  |some (r,_,_)=>some r
  |none=>none
 |none=>none
theorem P9 (hh:fI P hk) (hc:wm P code) {k:Nat} {f:FuncId} {xs:List AV} {r:AV} (e:ou hk code k f xs=some r):Fn P f xs [] r [] []:=by
 simp only [ou] at e
 split at e
 ·rename_i vs h hr
  split at e
  ·rename_i r' b es hP
   cases e
   obtain ⟨t,res,hv,hrun⟩:=uF hh hc (yw hh hc k) _ _ _ _ _ _ hr
   obtain ⟨hF,hl,_⟩:=Ao hv hP
   have hb0:b=[]:=List.length_eq_zero_iff.1 hl
   subst hb0
   have he0:es=[]:=P8 hP
   subst he0
   exact (hrun _ _ _ hF).Cy
  ·cases e
 ·cases e
end
end Go.Eng
