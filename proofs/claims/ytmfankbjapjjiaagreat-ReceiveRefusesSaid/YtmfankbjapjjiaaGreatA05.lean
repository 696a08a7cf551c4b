/-
  Part of a proof: lemmas and definitions of this work.
  No condition.
-/
import Derived.Test.YtmfankbjapjjiaaGreatA04
set_option linter.all false
set_option maxRecDepth 100000
set_option maxHeartbeats 8000000
namespace Go.Eng
open Go
def jA (run:RunT) (nm:Nat) (o:aH) (t:List (Nat×AV)) (h:List (Nat×Ob)):Option Rec:=
 match o.op with
 | .call f args=>match ev t f with
  |some (.fn g caps)=>match j5 t args with
   |some xs=>if g<1000000 then pU run nm h g (xs++caps) else if g<2000000 then pU run nm h (g - 1000000) (caps++xs) else none
   |none=>none
  |_=>none
 | .lS neg x=>match vw (ev t x) with
  |some (some b)=>some ⟨.v (.bool (if neg then !b else b)),[],[]⟩
  |_=>none
 |op=>match kz nm t h op with
  |some e=>bif preB t h op then some ⟨e.val,e.upd,dM t op⟩ else none
  |none=>none
section
variable {P:Program} {run:RunT}
theorem aiv {nm:Nat} {t:List (Nat×AV)} {h:List (Nat×Ob)} {op:gm} {r:Rec} (e:(match kz nm t h op with
 |some e=>bif preB t h op then some (⟨e.val,e.upd,dM t op⟩:Rec) else none
 |none=>none)=some r) (k:List (Nat×AV)->List (Nat×Ob)->E->Prop) (hk:∀ p,k t h ⟨p,r.val,r.upd⟩):vB nm t h op (aM nm t h op) k:=by
 split at e
 ·rename_i e0 h0
  cases hp:preB t h op with
  |false=>rw [hp] at e;cases e
  |true=>
   rw [hp] at e
   simp only [cond_true,Option.some.injEq] at e
   subst e
   have h1:aM nm t h op=some e0:=by rw [LK];exact h0
   have h2:=Px h1 hp
   rw [h1]
   exact ⟨h2,hk _⟩
 ·cases e
theorem aiw {nm:Nat} {t:List (Nat×AV)} {h:List (Nat×Ob)} {op:gm} {r:Rec} (e:(match kz nm t h op with
 |some e=>bif preB t h op then some (⟨e.val,e.upd,dM t op⟩:Rec) else none
 |none=>none)=some r) (k:Rec->Prop) (hk:k r):onE (aM nm t h op) fun e=>k ⟨e.val,e.upd,dM t op⟩:=by
 split at e
 ·rename_i e0 h0
  cases hp:preB t h op with
  |false=>rw [hp] at e;cases e
  |true=>
   rw [hp] at e
   simp only [cond_true,Option.some.injEq] at e
   subst e
   have h1:aM nm t h op=some e0:=by rw [LK];exact h0
   have h2:=Px h1 hp
   rw [h1]
   exact ⟨h2,hk⟩
 ·cases e
def pV:gm->Bool
 | .call _ _=>false
 | .lS _ _=>false
 |_=>true
theorem Z6 {nm:Nat} {o:aH} {t:List (Nat×AV)} {h:List (Nat×Ob)} (hp:pV o.op=true):jA run nm o t h=(match kz nm t h o.op with
 |some e=>bif preB t h o.op then some (⟨e.val,e.upd,dM t o.op⟩:Rec) else none
 |none=>none):=by
 obtain ⟨dst,op,guard,af⟩:=o
 cases op<;>first|(simp [pV] at hp;done)|rfl
theorem Z7 {nm:Nat} {o:aH} {t:List (Nat×AV)} {h:List (Nat×Ob)} {Q:List (Nat×AV)->List (Nat×Ob)->Prop} (hp:pV o.op=true):
 jJ P nm o t h Q=vB nm t h o.op (aM nm t h o.op) fun t h e=>Q (bP t o.dst e.val) (e.upd++h):=by
 obtain ⟨dst,op,guard,af⟩:=o
 cases op<;>first|(simp [pV] at hp;done)|rfl
theorem aix {nm:Nat} {o:aH} {t:List (Nat×AV)} {h:List (Nat×Ob)} {k:Rec->Prop} (hp:pV o.op=true):
 pE P nm o t h k=onE (aM nm t h o.op) fun e=>k ⟨e.val,e.upd,dM t o.op⟩:=by
 obtain ⟨dst,op,guard,af⟩:=o
 cases op<;>first|(simp [pV] at hp;done)|rfl
theorem aiy (hrun:gF P run) {nm:Nat} {o:aH} {t:List (Nat×AV)} {h:List (Nat×Ob)} {r:Rec} (e:jA run nm o t h=some r) (Q:List (Nat×AV)->List (Nat×Ob)->Prop)
 (hQ:Q (bP t o.dst r.val) (r.upd++h)):jJ P nm o t h Q:=by
 cases hp:pV o.op with
 |true=>
  rw [Z6 hp] at e
  rw [Z7 hp]
  exact aiv e (fun t h e=>Q (bP t o.dst e.val) (e.upd++h)) fun _=>hQ
 |false=>
  obtain ⟨dst,op,guard,af⟩:=o
  cases op
  case call f args=>
   simp only [jA] at e
   simp only [jJ]
   split at e
   ·rename_i g caps hf
    split at e
    ·rename_i xs hx
     rw [hf,hx]
     split at e
     ·rename_i hg
      simp only [kg,if_pos hg]
      exact (qK hrun e) h (fun _ _=>rfl) _ hQ
     ·rename_i hg
      split at e
      ·rename_i hg2
       simp only [kg,if_neg hg,if_pos hg2]
       exact (qK hrun e) h (fun _ _=>rfl) _ hQ
      ·cases e
    ·cases e
   ·cases e
  case lS neg x=>
   simp only [jA] at e
   simp only [jJ]
   split at e
   ·rename_i b hb
    cases e
    rw [hb]
    exact hQ
   ·cases e
  all_goals simp [pV] at hp
theorem aiz (hrun:gF P run) {nm:Nat} {o:aH} {t:List (Nat×AV)} {h:List (Nat×Ob)} {r:Rec} (e:jA run nm o t h=some r) (k:Rec->Prop) (hk:k r):pE P nm o t h k:=by
 cases hp:pV o.op with
 |true=>
  rw [Z6 hp] at e
  rw [aix hp]
  exact aiw e k hk
 |false=>
  obtain ⟨dst,op,guard,af⟩:=o
  cases op
  case call f args=>
   simp only [jA] at e
   simp only [pE]
   split at e
   ·rename_i g caps hf
    split at e
    ·rename_i xs hx
     rw [hf,hx]
     split at e
     ·rename_i hg
      simp only [kg,if_pos hg]
      exact ⟨r,qK hrun e,hk⟩
     ·rename_i hg
      split at e
      ·rename_i hg2
       simp only [kg,if_neg hg,if_pos hg2]
       exact ⟨r,qK hrun e,hk⟩
      ·cases e
    ·cases e
   ·cases e
  case lS neg x=>
   simp only [jA] at e
   simp only [pE]
   split at e
   ·rename_i b hb
    cases e
    rw [hb]
    exact hk
   ·cases e
  all_goals simp [pV] at hp
noncomputable def uw {α:Type} (l:List (Nat×α)) (k:Nat):Option α:= @List.rec (Nat×α) (fun _=>Option α) none (fun p _ ih=>cond (Nat.beq p.1 k) (some p.2) ih) l
theorem vV {α:Type}:∀ (l:List (Nat×α)) (k:Nat),uw l k=get l k
 |[],k=>rfl
 |(j,x)::l,k=>by
  show cond (Nat.beq j k) (some x) (uw l k)=if j=k then some x else get l k
  rw [vV l k]
  cases hb:Nat.beq j k with
  |true=>rw [if_pos (Nat.eq_of_beq_eq_true hb)];rfl
  |false=>rw [if_neg (Nat.ne_of_beq_eq_false hb)];rfl
abbrev pW:=RunT->Nat->List (Nat×AV)->List (Nat×Ob)->Option Rec
noncomputable def lY (x:Operand) (t:List (Nat×AV)):Option AV:=match x with
 | .tmp k=>uw t k
 |x=>ev t x
theorem uy (x:Operand) (t:List (Nat×AV)):lY x t=ev t x:=by
 cases x<;>first|rfl|(simp only [lY,ev,vV])
noncomputable def si (x:AV):Bool:= @AV.rec (fun _=>Bool) (fun _=>Bool) (fun _=>Bool) (fun _=>true) (fun _ ih=>ih) (fun _ ih=>ih) (fun _ _ _=>true) (fun _ _ _ _=>false) (fun _ _=>false) (fun _ _ _ _=>false) (fun _ _ _=>true) (fun _=>false) (fun _ _ ih=>ih) true (fun _ _ a b=>cond a b false) true (fun _ _ _ _=>true) x
noncomputable def pX (l:List AV):Bool:= @List.rec AV (fun _=>Bool) true (fun c _ ih=>cond (si c) ih false) l
theorem Z8 (x:AV):si x=x.pure:=by
 refine AV.rec (motive_1:=fun x=>si x=x.pure) (motive_2:=fun xs=>(@AV.rec_1 (fun _=>Bool) (fun _=>Bool) (fun _=>Bool) (fun _=>true) (fun _ ih=>ih) (fun _ ih=>ih) (fun _ _ _=>true) (fun _ _ _ _=>false) (fun _ _=>false) (fun _ _ _ _=>false) (fun _ _ _=>true) (fun _=>false) (fun _ _ ih=>ih) true (fun _ _ a b=>cond a b false) true (fun _ _ _ _=>true) xs)=dA xs) (motive_3:=fun _=>True) ?_ ?_ ?_ ?_ ?_ ?_ ?_ ?_ ?_ ?_ ?_ ?_ ?_ ?_ x
 case refine_2=>intro cs ih;rw [AV.pure];exact ih
 case refine_3=>intro cs ih;rw [AV.pure];exact ih
 case refine_10=>intro f cs ih;rw [AV.pure];exact ih
 case refine_11=>simp only [dA]
 case refine_12=>
  intro c cs a b
  simp only [dA]
  rw [<-a,<-b]
  cases hb:si c
  ·show cond (si c) _ false=_
   rw [hb];rfl
  ·show cond (si c) _ false=_
   rw [hb];rfl
 all_goals intros;first|trivial|(simp only [AV.pure];rfl)
theorem Ff:∀ l:List AV,pX l=dA l
 |[]=>by simp only [dA];rfl
 |c::l=>by
  simp only [dA]
  show cond (si c) (pX l) false=_
  rw [Z8,Ff l]
  cases c.pure<;>rfl
noncomputable def jR (h:List (Nat×Ob)) (b:Nat):Bool:=match uw h b with
 |some (.box _)=>false
 |_=>true
theorem x9 {h:List (Nat×Ob)} {S:List (Nat×Nat)} {b:Nat} (e:jR h b=true):nS h S b=true:=by
 simp only [jR,vV] at e
 unfold nS
 split
 ·rename_i hh;rw [hh] at e;cases e
 ·rfl
theorem aiA {h:List (Nat×Ob)} (h0:jR h 0=true) (h1:jR h 1=true) (h2:jR h 2=true) (h3:jR h 3=true):iD h [] [] []=true:=by
 simp [iD,x9 h0,x9 h1,x9 h2,x9 h3]
theorem aiB {h:List (Nat×Ob)} {o:Ob} (h1:jR h 1=true) (h2:jR h 2=true) (h3:jR h 3=true):iD h [(0,0)] [] [(0,o)]=true:=by
 have h0:nS h [(0,0)] 0=true:=by
  unfold nS
  split<;>simp [get]
 simp [iD,h0,x9 h1,x9 h2,x9 h3]
noncomputable def tb (b:Nat) (x:AV):Option AV:=match x with
 | .ptr b' j=>cond (Nat.beq b' b) (some (.ptr 0 j)) none
 |x=>cond (si x) (some x) none
noncomputable def PS (b:Nat) (l:List AV):Option (List AV):= @List.rec AV (fun _=>Option (List AV)) (some []) (fun c _ ih=>match tb b c with
 |some c'=>(match ih with
  |some l'=>some (c'::l')
  |none=>none)
 |none=>none) l
theorem aiC {b:Nat} {x y:AV} (e:tb b y=some x):(∃ j,y= .ptr b j/\x= .ptr 0 j)\/(x=y/\x.pure=true):=by
 have hg:∀ z:AV,cond (si z) (some z) none=some x->x=z/\x.pure=true:=by
  intro z hz
  cases hp:si z with
  |true=>rw [hp] at hz;cases hz;exact ⟨rfl,by rw [<-Z8];exact hp⟩
  |false=>rw [hp] at hz;cases hz
 cases y
 case ptr b' j=>
  have e:cond (Nat.beq b' b) (some (AV.ptr 0 j)) none=some x:=e
  cases hb:Nat.beq b' b with
  |true=>rw [hb] at e;cases e;exact .inl ⟨j,by rw [Nat.eq_of_beq_eq_true hb],rfl⟩
  |false=>rw [hb] at e;cases e
 all_goals exact .inr (hg _ e)
theorem Z9 {b:Nat}:∀ (ys xs:List AV),PS b ys=some xs->ja [b] xs ys
 |[],xs,e=>by
  cases e
  simp only [ja]
 |y::ys,xs,e=>by
  have e:(match tb b y with
   |some c'=>(match PS b ys with
    |some l'=>some (c'::l')
    |none=>none)
   |none=>none)=some xs:=e
  split at e
  ·rename_i c' hc
   split at e
   ·rename_i l' hl
    cases e
    have ht:=Z9 ys l' hl
    rcases aiC hc with ⟨j,rfl,rfl⟩|⟨rfl,hp⟩
    ·simp only [ja]
     exact ⟨rfl,ht⟩
    ·cases c'<;>first|(simp [AV.pure] at hp;done)|(simp only [ja];first|exact ⟨⟨rfl,hp⟩,ht⟩|exact ⟨⟨trivial,hp⟩,ht⟩)
   ·cases e
  ·cases e
noncomputable def fp (l:List AV):Option Nat:= @List.rec AV (fun _=>Option Nat) none (fun c _ ih=>match c with
 | .ptr b _=>some b
 |_=>ih) l
noncomputable def aiD (nm:Nat) (vs:List AV) (h':List (Nat×Ob)):Option Rec:=match mU 0 (ol 0 vs).eraseDups vs h' with
 |some (r,_,es)=>bif decide (es.length<=8)&&dW es.length r then some ⟨sh nm r,dB nm es,[]⟩ else none
 |none=>none
noncomputable def n4 (h:List (Nat×Ob)):Bool:=cond (jR h 1) (cond (jR h 2) (jR h 3) false) false
theorem aac {h:List (Nat×Ob)} (e:n4 h=true):jR h 1=true/\jR h 2=true/\jR h 3=true:=by
 unfold n4 at e
 cases h1:jR h 1<;>rw [h1] at e<;>try cases e
 cases h2:jR h 2<;>rw [h2] at e<;>try cases e
 exact ⟨rfl,rfl,e⟩
noncomputable def LY (run:RunT) (nm:Nat) (h:List (Nat×Ob)) (f:FuncId) (ys:List AV):Option Rec:=
 cond (pX ys) (match run f ys [] [] with
  |some (vs,h')=>cond (and (pX vs) (and (jR h' 0) (n4 h'))) (some ⟨ay vs,[],[]⟩) (aiD nm vs h')
  |none=>none) (match fp ys with
  |some b=>(match PS b ys with
   |some xs=>(match uw h b with
    |some (.box cs)=>cond (pX cs) (match run f xs [cs] [] with
     |some (vs,h')=>(match uw h' 0 with
      |some (.box cs')=>cond (and (pX vs) (and (pX cs') (n4 h'))) (some ⟨ay vs,[(b,.box cs')],[b]⟩) (pU run nm h f ys)
      |_=>pU run nm h f ys)
     |none=>none) (pU run nm h f ys)
    |_=>pU run nm h f ys)
   |none=>pU run nm h f ys)
  |none=>pU run nm h f ys)
theorem Fg:∀ (vs:List AV),dA vs=true->(ay vs).pure=true
 |[],h=>by simp [ay,AV.pure,dA]
 |[x],h=>by simpa [ay,dA] using h
 |x::y::l,h=>by simpa [ay,AV.pure] using h
theorem aad {P:Program} {run:RunT} (hrun:gF P run) {nm:Nat} {h:List (Nat×Ob)} {f:FuncId} {ys:List AV} {r:Rec} (e:LY run nm h f ys=some r):jK P nm f ys h r:=by
 unfold LY at e
 cases hp:pX ys with
 |true=>
  rw [hp] at e
  simp only [cond_true] at e
  rw [Ff] at hp
  split at e
  ·rename_i vs h' hr
   cases hc:(and (pX vs) (and (jR h' 0) (n4 h'))) with
   |true=>
    rw [hc] at e
    cases e
    simp only [Bool.and_eq_true] at hc
    obtain ⟨hv,h0,h1⟩:=hc
    obtain ⟨h1,h2,h3⟩:=aac h1
    rw [Ff] at hv
    obtain ⟨t,res,hv',hrun'⟩:=hrun _ _ _ _ _ _ hr
    exact Fn.Ls (hrun' _ _ _ (Fin.bI vs hv' (aiA h0 h1 h2 h3) (Fg vs hv) rfl)).EX hp (Fg vs hv)
   |false=>
    rw [hc] at e
    simp only [cond_false] at e
    refine qK hrun (?_:pU run nm h f ys=some r)
    unfold pU
    rw [hp,hr]
    exact e
  ·cases e
 |false=>
  rw [hp] at e
  simp only [cond_false] at e
  split at e
  ·rename_i b hb
   split at e
   ·rename_i xs hx
    split at e
    ·rename_i cs hcs
     rw [vV] at hcs
     cases hpc:pX cs with
     |true=>
      rw [hpc] at e
      simp only [cond_true] at e
      rw [Ff] at hpc
      split at e
      ·rename_i vs h' hr
       split at e
       ·rename_i cs' hcs'
        rw [vV] at hcs'
        cases hc:(and (pX vs) (and (pX cs') (n4 h'))) with
        |true=>
         rw [hc] at e
         cases e
         simp only [Bool.and_eq_true] at hc
         obtain ⟨hv,hc',h1⟩:=hc
         obtain ⟨h1,h2,h3⟩:=aac h1
         rw [Ff] at hv hc'
         obtain ⟨t,res,hv',hrun'⟩:=hrun _ _ _ _ _ _ hr
         have hF:=(hrun' _ _ _ (Fin.mR vs hv' hcs' (aiB h1 h2 h3) (Fg vs hv) hc' rfl rfl)).EX
         have:=hF.uf (h:=h) nm [b] [cs'] (Z9 ys xs hx) (by simp only [pJ,and_true,hcs];exact xU cs hpc) (by simp) (by simp) rfl (Lr [cs'] (by simp only [xR,hc',Bool.and_true])) rfl (by simp) (CW _ (Fg vs hv))
         rw [EJ nm _ (Fg vs hv)] at this
         exact this
        |false=>
         rw [hc] at e
         exact qK hrun e
       ·exact qK hrun e
      ·cases e
     |false=>
      rw [hpc] at e
      exact qK hrun e
    ·exact qK hrun e
   ·exact qK hrun e
  ·exact qK hrun e
noncomputable def yc:gm->pW:=fun op run nm t h=>jA run nm ⟨none,op,none,[]⟩ t h
noncomputable def uz (cs:List AV) (n:Nat):Bool:= @List.rec AV (fun _=>Nat->Bool) (fun n=>Nat.beq n 0) (fun _ _ ih n=>cond (Nat.beq n 0) false (ih (Nat.pred n))) cs n
noncomputable def LZ (cs:List AV):Nat:= @List.rec AV (fun _=>Nat) 0 (fun _ _ ih=>Nat.add ih 1) cs
noncomputable def L6 (cs:List AV) (n:Nat):List AV:= @List.rec AV (fun _=>Nat->List AV) (fun _=>[]) (fun c _ ih n=>cond (Nat.beq n 0) [] (c::ih (Nat.pred n))) cs n
noncomputable def Fh (cs:List AV) (n:Nat):List AV:= @List.rec AV (fun _=>Nat->List AV) (fun _=>[]) (fun c l ih n=>cond (Nat.beq n 0) (c::l) (ih (Nat.pred n))) cs n
noncomputable def L8 (cs:List AV) (n:Nat):Option AV:= @List.rec AV (fun _=>Nat->Option AV) (fun _=>none) (fun c _ ih n=>cond (Nat.beq n 0) (some c) (ih (Nat.pred n))) cs n
noncomputable def Fj (cs ds:List AV):List AV:= @List.rec AV (fun _=>List AV) ds (fun c _ ih=>c::ih) cs
theorem Fp:∀ (cs:List AV) (n:Nat),uz cs n=true->cs.length=n
 |[],n,e=>(Nat.eq_of_beq_eq_true (show Nat.beq n 0=true from e)).symm
 |c::cs,n,e=>by
  have e:cond (Nat.beq n 0) false (uz cs (Nat.pred n))=true:=e
  cases n with
  |zero=>cases e
  |succ n=>rw [List.length_cons,Fp cs n e]
theorem PU:∀ cs:List AV,LZ cs=cs.length
 |[]=>rfl
 |c::cs=>by show LZ cs+1=_;rw [PU cs];rfl
theorem PV:∀ (cs:List AV) (n:Nat),L6 cs n=cs.take n
 |[],n=>by rw [List.take_nil];rfl
 |c::cs,0=>rfl
 |c::cs,n+1=>by show c::L6 cs n=_;rw [PV cs n];rfl
theorem L9:∀ (cs:List AV) (n:Nat),Fh cs n=cs.drop n
 |[],n=>by rw [List.drop_nil];rfl
 |c::cs,0=>rfl
 |c::cs,n+1=>by show Fh cs n=_;rw [L9 cs n];rfl
theorem PW:∀ (cs:List AV) (n:Nat),L8 cs n=cs[n]?
 |[],n=>rfl
 |c::cs,0=>rfl
 |c::cs,n+1=>by show L8 cs n=_;rw [PW cs n];rfl
theorem aae (cs ds:List AV):Fj cs ds=cs++ds:=by
 induction cs with
 |nil=>rfl
 |cons c cs ih=>show c::Fj cs ds=_;rw [ih];rfl
noncomputable def Ma (l:List AV):Bool:= @List.rec AV (fun _=>Bool) true (fun c _ ih=>cond c.one ih false) l
theorem aaf:∀ l:List AV,Ma l=pu l
 |[]=>rfl
 |c::l=>by
  show cond c.one (Ma l) false=(c.one&&pu l)
  rw [aaf l];cases c.one<;>rfl
noncomputable def PX (x:AV):Option (List AV):=match x with
 | .agg cs=>cond (Ma cs) (some cs) none
 |x=>cond x.one (some [x]) none
theorem aag (x:AV):PX x=mM x:=by
 have hg:∀ y:AV,cond y.one (some [y]) none=if y.one=true then some [y] else none:=fun y=>by cases y.one<;>rfl
 cases x
 case agg cs=>
  show cond (Ma cs) (some cs) none=if pu cs=true then some cs else none
  rw [aaf];cases pu cs<;>rfl
 all_goals first|rfl|exact hg (.v _)|exact hg (.aG _)|exact hg (.sl _ _)|exact hg (.own _ _ _ _)|exact hg (.ptr _ _)|exact hg (.rp _ _ _ _)|exact hg (.dI _ _)|exact hg (.mp _)|exact hg (.fn _ _)
noncomputable def PY (cs:List AV) (j:Nat) (ys:List AV) (sz:Nat):List AV:=cond (Nat.beq j 0) (cond (uz cs sz) ys (Fj ys (Fh cs sz))) (Fj (L6 cs j) (Fj ys (Fh cs (Nat.add j sz))))
theorem aiE {cs:List AV} {j:Nat} {ys:List AV} {sz:Nat} (e:uz ys sz=true):PY cs j ys sz=splice cs j ys:=by
 have hl:=Fp ys sz e
 subst hl
 unfold PY splice
 cases hj:Nat.beq j 0 with
 |true=>
  have:=Nat.eq_of_beq_eq_true hj;subst this
  cases hc:uz cs ys.length with
  |true=>
   have:=Fp _ _ hc
   simp [List.drop_eq_nil_of_le,this]
  |false=>simp [aae,L9]
 |false=>simp [aae,L9,PV]
noncomputable def PZ (f:Operand) (args:List Operand):pW:=fun run nm t h=>match lY f t with
 |some (.fn g caps)=>(match j5 t args with
  |some xs=>cond (Nat.blt g 1000000) (LY run nm h g (xs++caps)) (cond (Nat.blt g 2000000) (LY run nm h (g - 1000000) (caps++xs)) none)
  |none=>none)
 |_=>none
noncomputable def aah (op:BinOp) (k:IntKind) (a b:Int):Option Value:=match op with
 | .add=>some (.int k (k.wrap (a+b)))
 | .sub=>some (.int k (k.wrap (a - b)))
 | .eql=>some (.bool (a==b))
 | .neq=>some (.bool (a !=b))
 | .lss=>some (.bool (decide (a<b)))
 | .leq=>some (.bool (decide (a<=b)))
 | .gtr=>some (.bool (decide (b<a)))
 | .geq=>some (.bool (decide (b<=a)))
 |_=>none
noncomputable def aai (op:BinOp) (x y:Operand):pW:=fun run nm t h=>match lY x t with
 |some (.v (.int .i64 a))=>(match lY y t with
  |some (.v (.int .i64 b))=>(match aah op .i64 a b with
   |some c=>some ⟨.v c,[],[]⟩
   |none=>yc (.bin op x y) run nm t h)
  |_=>yc (.bin op x y) run nm t h)
 |_=>yc (.bin op x y) run nm t h
theorem aiF {op:BinOp} {a b:Int} {c:Value} (e:aah op .i64 a b=some c):ES op (.int .i64 a) (.int .i64 b)=some c/\kM op (.int .i64 a) (.int .i64 b)=some c:=by
 cases op<;>first|(cases e;exact ⟨rfl,rfl⟩)|cases e
noncomputable def aaj (x:Operand):pW:=fun _ _ t _=>match lY x t with
 |some y=>some ⟨y,[],[]⟩
 |none=>none
noncomputable def aak (c a b:Operand):pW:=fun _ _ t _=>match lY c t with
 |some (.v (.bool true))=>(match lY a t with
  |some y=>some ⟨y,[],[]⟩
  |none=>none)
 |some (.v (.bool false))=>(match lY b t with
  |some y=>some ⟨y,[],[]⟩
  |none=>none)
 |_=>none
noncomputable def aiG (zs:List Value):pW:=fun _ nm _ _=>some ⟨.ptr nm 0,[(nm,.box (zs.map .v))],[]⟩
noncomputable def aal (x:Operand):pW:=fun _ nm t _=>match lY x t with
 |some y=>(match PX y with
  |some ys=>some ⟨.ptr nm 0,[(nm,.box ys)],[]⟩
  |none=>none)
 |none=>none
noncomputable def aam (ag:Bool) (sz:Nat) (x:Operand):pW:=fun run nm t h=>match lY x t with
 |some (.ptr b j)=>(match uw h b with
  |some (.box cs)=>cond ag (cond (and (Nat.beq j 0) (uz cs sz)) (some ⟨.agg cs,[],[b]⟩) (cond (Nat.ble (Nat.add j sz) (LZ cs)) (some ⟨.agg (L6 (Fh cs j) sz),[],[b]⟩) none)) (match L8 cs j with
   |some c=>some ⟨c,[],[b]⟩
   |none=>none)
  |_=>none)
 |_=>yc (.load ag sz x) run nm t h
noncomputable def aan (sz:Nat) (x y:Operand):pW:=fun run nm t h=>match lY x t with
 |some (.ptr b j)=>(match lY y t with
  |some z=>(match uw h b with
   |some (.box cs)=>(match PX z with
    |some ys=>cond (and (uz ys sz) (Nat.ble (Nat.add j sz) (LZ cs))) (some ⟨.v undef,[(b,.box (PY cs j ys sz))],[b]⟩) none
    |none=>none)
   |_=>none)
  |none=>none)
 |_=>yc (.store sz x y) run nm t h
noncomputable def aao (off:Nat) (x:Operand):pW:=fun run nm t h=>match lY x t with
 |some (.ptr b j)=>(match uw h b with
  |some (.box _)=>some ⟨.ptr b (j+off),[],[b]⟩
  |_=>none)
 |_=>yc (.lF off x) run nm t h
noncomputable def aap (i:Nat) (x:Operand):pW:=fun _ _ t _=>match lY x t with
 |some (.aG cs)=>(match L8 cs i with
  |some c=>some ⟨c,[],[]⟩
  |none=>none)
 |_=>none
noncomputable def uD (op:gm):pW:=match op with
 | .jH x=>aaj x
 | .pick c a b=>aak c a b
 | .alloc zs=>aiG zs
 | .box x=>aal x
 | .load ag sz x=>aam ag sz x
 | .store sz x y=>aan sz x y
 | .lF off x=>aao off x
 | .ext i x=>aap i x
 | .call f args=>PZ f args
 | .bin op x y=>aai op x y
 |op=>yc op
noncomputable def yg (run:RunT) (nm:Nat) (o:aH) (t:List (Nat×AV)) (h:List (Nat×Ob)):Option Rec:=uD o.op run nm t h
theorem aiH {run:RunT} {nm:Nat} {o:aH} {t:List (Nat×AV)} {h:List (Nat×Ob)}:jA run nm o t h=jA run nm ⟨none,o.op,none,[]⟩ t h:=rfl
theorem aaq {run:RunT} {nm:Nat} {o:aH} {t:List (Nat×AV)} {h:List (Nat×Ob)} {r:Rec} (hc:∀ f l,o.op≠.call f l) (e:yg run nm o t h=some r):jA run nm o t h=some r:=by
 rw [aiH]
 obtain ⟨dst,op,guard,af⟩:=o
 simp only [yg] at e
 show jA run nm ⟨none,op,none,[]⟩ t h=some r
 cases op
 case call f l=>exact (hc f l rfl).elim
 case jH x=>
  simp only [uD,aaj,uy] at e
  simp only [jA,kz,aM]
  cases hx:ev t x with
  |none=>rw [hx] at e;cases e
  |some y=>rw [hx] at e;exact e
 case pick c a b=>
  simp only [uD,aak,uy] at e
  simp only [jA,kz,aM]
  split at e
  ·rename_i hc
   rw [hc]
   cases hx:ev t a with
   |none=>rw [hx] at e;cases e
   |some y=>rw [hx] at e;exact e
  ·rename_i hc
   rw [hc]
   cases hx:ev t b with
   |none=>rw [hx] at e;cases e
   |some y=>rw [hx] at e;exact e
  ·cases e
 case alloc zs=>exact e
 case box x=>
  simp only [uD,aal,uy,aag] at e
  simp only [jA,kz,aM]
  cases hx:ev t x with
  |none=>rw [hx] at e;cases e
  |some y=>
   rw [hx] at e
   simp only at e ⊢
   cases hy:mM y with
   |none=>rw [hy] at e;cases e
   |some ys=>rw [hy] at e;exact e
 case ext i x=>
  simp only [uD,aap,uy,PW] at e
  simp only [jA,kz,aM]
  split at e
  ·rename_i cs hc
   rw [hc]
   simp only
   cases hx:cs[i]? with
   |none=>rw [hx] at e;cases e
   |some y=>rw [hx] at e;exact e
  ·cases e
 case lF off x=>
  simp only [uD,aao,uy,vV] at e
  split at e
  ·rename_i b j hb
   split at e
   ·rename_i cs hc
    simp only [jA,kz,aM,preB,dM,hb,hc]
    exact e
   ·cases e
  ·exact e
 case bin op x y=>
  simp only [uD,aai,uy] at e
  split at e
  ·rename_i a ha
   split at e
   ·rename_i b hb
    split at e
    ·rename_i c hc
     obtain ⟨h1,h2⟩:=aiF hc
     simp only [jA,kz,preB,dM,ha,hb,h1,h2]
     exact e
    ·exact e
   ·exact e
  ·exact e
 case load ag sz x=>
  simp only [uD,aam,uy,vV,PW,PV,L9,PU] at e
  split at e
  ·rename_i b j hb
   split at e
   ·rename_i cs hc
    simp only [jA,kz,aM,preB,dM,hb,hc]
    cases ag with
    |true=>
     simp only [cond_true] at e
     cases hj:(and (Nat.beq j 0) (uz cs sz)) with
     |true=>
      rw [hj] at e
      rw [Bool.and_eq_true] at hj
      have h1:=Nat.eq_of_beq_eq_true hj.1
      have h2:=Fp _ _ hj.2
      subst h1
      rw [if_pos rfl,if_pos (by omega),List.drop_zero,List.take_of_length_le (by omega)]
      exact e
     |false=>
     rw [hj] at e
     simp only [cond_false] at e
     cases hl:Nat.ble (Nat.add j sz) cs.length with
     |true=>
      have hl':j+sz<=cs.length:=Nat.le_of_ble_eq_true hl
      rw [hl] at e;rw [if_pos rfl,if_pos hl'];exact e
     |false=>rw [hl] at e;cases e
    |false=>
     simp only [cond_false] at e
     rw [if_neg (by simp)]
     cases hx:cs[j]? with
     |none=>rw [hx] at e;cases e
     |some y=>rw [hx] at e;exact e
   ·cases e
  ·exact e
 case store sz x y=>
  simp only [uD,aan,uy,vV,aag,PU] at e
  split at e
  ·rename_i b j hb
   split at e
   ·rename_i z hz
    split at e
    ·rename_i cs hc
     split at e
     ·rename_i ys hy
      cases hl:(and (uz ys sz) (Nat.ble (Nat.add j sz) cs.length)) with
      |false=>rw [hl] at e;cases e
      |true=>
       rw [hl] at e
       rw [Bool.and_eq_true] at hl
       have h1:=Fp _ _ hl.1
       have h2:j+sz<=cs.length:=Nat.le_of_ble_eq_true hl.2
       rw [aiE hl.1] at e
       simp only [jA,kz,aM,preB,dM,hb,hz,hc,hy,if_pos (And.intro h1 h2)]
       exact e
     ·cases e
    ·cases e
   ·cases e
  ·exact e
 all_goals exact e
theorem aar (hrun:gF P run) {f:Operand} {args:List Operand} {nm:Nat} {t:List (Nat×AV)} {h:List (Nat×Ob)} {r:Rec} (e:PZ f args run nm t h=some r):
 kg (ev t f) (j5 t args) fun g xs=>jK P nm g xs h r:=by
 simp only [PZ,uy] at e
 split at e
 ·rename_i g caps hf
  split at e
  ·rename_i xs hx
   rw [hf,hx]
   cases hg:Nat.blt g 1000000 with
   |true=>
    rw [hg] at e
    have hg':g<1000000:=Nat.le_of_ble_eq_true hg
    simp only [kg]
    rw [if_pos hg']
    exact aad hrun e
   |false=>
    rw [hg] at e
    have hn:¬ g<1000000:=fun hh=>by rw [show Nat.blt g 1000000=true from Nat.ble_eq_true_of_le hh] at hg;cases hg
    cases hg2:Nat.blt g 2000000 with
    |true=>
     rw [hg2] at e
     have hg':g<2000000:=Nat.le_of_ble_eq_true hg2
     simp only [kg]
     rw [if_neg hn,if_pos hg']
     exact aad hrun e
    |false=>rw [hg2] at e;cases e
  ·cases e
 ·cases e
theorem aas {f:Option AV} {l:Option (List AV)} {p q:FuncId->List AV->Prop} (h:∀ g xs,p g xs->q g xs) (e:kg f l p):kg f l q:=by
 revert e
 unfold kg
 split
 ·rename_i g caps xs
  intro e
  by_cases h1:g<1000000
  ·rw [if_pos h1] at e ⊢;exact h _ _ e
  ·rw [if_neg h1] at e ⊢
   by_cases h2:g<2000000
   ·rw [if_pos h2] at e ⊢;exact h _ _ e
   ·rw [if_neg h2] at e;exact e.elim
 ·exact id
theorem aiI (hrun:gF P run) {nm:Nat} {o:aH} {t:List (Nat×AV)} {h:List (Nat×Ob)} {r:Rec} (e:yg run nm o t h=some r) (Q:List (Nat×AV)->List (Nat×Ob)->Prop)
 (hQ:Q (bP t o.dst r.val) (r.upd++h)):jJ P nm o t h Q:=by
 by_cases hc:∀ f l,o.op≠.call f l
 ·exact aiy hrun (aaq hc e) Q hQ
 ·obtain ⟨dst,op,guard,af⟩:=o
  cases op
  case call f l=>
   have:=aar (P:=P) hrun (f:=f) (args:=l) e
   simp only [jJ]
   exact aas (fun g xs hg=>hg h (fun _ _=>rfl) _ hQ) this
  all_goals exact (hc (fun f l hh=>gm.noConfusion hh)).elim
theorem aat (hrun:gF P run) {nm:Nat} {o:aH} {t:List (Nat×AV)} {h:List (Nat×Ob)} {r:Rec} (e:yg run nm o t h=some r) (k:Rec->Prop) (hk:k r):pE P nm o t h k:=by
 by_cases hc:∀ f l,o.op≠.call f l
 ·exact aiz hrun (aaq hc e) k hk
 ·obtain ⟨dst,op,guard,af⟩:=o
  cases op
  case call f l=>
   have:=aar (P:=P) hrun (f:=f) (args:=l) e
   simp only [pE]
   exact aas (fun g xs hg=>⟨r,hg,hk⟩) this
  all_goals exact (hc (fun f l hh=>gm.noConfusion hh)).elim
def Mc (t:List (Nat×AV)) (h:List (Nat×Ob)) (op:gm):List Nat:=
 (match op with
  | .store _ _ y=>P5 (ev t y)
  | .lD _ _ _ _ ps=>ps.flatMap fun (p:Nat×Operand)=>P5 (ev t p.2)
  | .lT _ _ x=>P5 (ev t x)
  |_=>[]).filter fun b=>match get h b with
   |some (.row _ _ _)=>true
   |_=>false
where
 P5:Option AV->List Nat
  |some x=>deep x
  |none=>[]
noncomputable def Md (run:RunT) (nm:Nat) (o:aH) (t:List (Nat×AV)) (h:List (Nat×Ob)):Option (List (Nat×AV)×List (Nat×Ob)):=
 match yg run nm o t h with
 |some r=>some (bP t o.dst r.val,r.upd++h)
 |none=>bif (Mc t h o.op).isEmpty then none else match kz nm t h o.op with
  |some _=>none
  |none=>match Dj (Mc t h o.op) t h with
   |some (t1,h1)=>match kz nm t1 h1 o.op with
    |some e=>bif preB t1 h1 o.op then some (bP t1 o.dst e.val,e.upd++h1) else none
    |none=>none
   |none=>none
theorem aau (hrun:gF P run) {nm:Nat} {o:aH} {t t':List (Nat×AV)} {h h':List (Nat×Ob)} (e:Md run nm o t h=some (t',h')) (Q:List (Nat×AV)->List (Nat×Ob)->Prop)
 (hQ:Q t' h'):jJ P nm o t h Q:=by
 simp only [Md] at e
 split at e
 ·rename_i r hr
  cases e
  exact aiI hrun hr Q hQ
 ·cases hz:(Mc t h o.op).isEmpty with
  |true=>rw [hz] at e;cases e
  |false=>
   rw [hz] at e
   simp only [cond_false] at e
   split at e
   ·cases e
   ·rename_i hn
    split at e
    ·rename_i t1 h1 hf
     split at e
     ·rename_i e1 he
      cases hp:preB t1 h1 o.op with
      |false=>rw [hp] at e;cases e
      |true=>
       rw [hp] at e
       simp only [cond_true,Option.some.injEq,Prod.mk.injEq] at e
       obtain ⟨rfl,rfl⟩:=e
       have key:vB nm t h o.op (aM nm t h o.op) fun t h e=>Q (bP t o.dst e.val) (e.upd++h):=by
        have h3:aM nm t1 h1 o.op=some e1:=by rw [LK];exact he
        have h2:=Px h3 hp
        rw [LK nm t h o.op,hn]
        refine ⟨t1,h1,ZH hf,?_⟩
        rw [h3]
        exact ⟨h2,hQ⟩
       cases hq:pV o.op with
       |true=>rw [Z7 hq];exact key
       |false=>
        obtain ⟨dst,op,guard,af⟩:=o
        cases op<;>first|(simp [Mc] at hz;done)|(simp [pV] at hq;done)
     ·cases e
    ·cases e
noncomputable def vW (run:RunT):Nat->List aH->List (Nat×AV)->List (Nat×Ob)->Option (List (Nat×AV)×List (Nat×Ob))
 |_,[],t,h=>some (t,h)
 |nm,o::l,t,h=>match o.guard with
  |none=>match Md run nm o t h with
   |some (t',h')=>vW run (nm+8) l t' h'
   |none=>none
  |some (g,want)=>match get t g with
   |some (.v (.bool b))=>bif b==want then (match Md run nm o t h with
    |some (t',h')=>vW run (nm+8) l t' h'
    |none=>none) else vW run (nm+8) l (bP t o.dst (.v undef)) h
   |some (.v (.tuple _))=>vW run (nm+8) l (bP t o.dst (.v undef)) h
   |_=>none
theorem Fq (hrun:gF P run):∀ (l:List aH) (nm:Nat) (t:List (Nat×AV)) (h:List (Nat×Ob)) (t':List (Nat×AV)) (h':List (Nat×Ob)),vW run nm l t h=some (t',h')->
 ∀ Q:List (Nat×AV)->List (Nat×Ob)->Prop,Q t' h'->wpOps P nm l t h Q
 |[],nm,t,h,t',h',e,Q,hQ=>by simp only [vW,Option.some.injEq,Prod.mk.injEq] at e;obtain ⟨rfl,rfl⟩:=e;simpa only [wpOps] using hQ
 |o::l,nm,t,h,t',h',e,Q,hQ=>by
  simp only [vW] at e
  simp only [wpOps]
  split at e
  ·rename_i hg
   split at e
   ·rename_i t1 h1 hr
    simp only [hg]
    exact aau hrun hr _ (Fq hrun l _ _ _ _ _ e Q hQ)
   ·cases e
  ·rename_i g want hg
   simp only [hg]
   split at e
   ·rename_i b hb
    simp only [hb,pz]
    cases hw:(b==want) with
    |true=>
     rw [hw] at e
     simp only [cond_true] at e
     split at e
     ·rename_i t1 h1 hr
      have hh:=aau hrun hr (fun t h=>wpOps P (nm+8) l t h Q) (Fq hrun l _ _ _ _ _ e Q hQ)
      cases b<;>cases want<;>simp_all [Split]
     ·cases e
    |false=>
     rw [hw] at e
     simp only [cond_false] at e
     have hh:=Fq hrun l _ _ _ _ _ e Q hQ
     cases b<;>cases want<;>simp_all [Split]
   ·rename_i vs hb
    simp only [hb]
    exact Fq hrun l _ _ _ _ _ e Q hQ
   ·cases e
noncomputable def vX (run:RunT):Nat->List aH->List bR->List (Nat×AV)->List (Nat×Ob)->Option (List bR×List (Nat×AV)×List (Nat×Ob))
 |_,[],acc,t,h=>some (acc,t,h)
 |nm,o::l,acc,t,h=>match o.guard with
  |none=>match yg run nm o t h with
   |some r=>vX run (nm+8) l ((r.rd,r.upd.map Prod.fst)::acc) (bP t o.dst r.val) (r.upd++h)
   |none=>none
  |some (g,want)=>match get t g with
   |some (.v (.bool b))=>bif b==want then (match yg run nm o t h with
    |some r=>vX run (nm+8) l ((r.rd,r.upd.map Prod.fst)::acc) (bP t o.dst r.val) (r.upd++h)
    |none=>none) else vX run (nm+8) l (([],[])::acc) (bP t o.dst (.v undef)) h
   |some (.v (.tuple _))=>vX run (nm+8) l (([],[])::acc) (bP t o.dst (.v undef)) h
   |_=>none
theorem Fs (hrun:gF P run):∀ (l:List aH) (nm:Nat) (acc:List bR) (t:List (Nat×AV)) (h:List (Nat×Ob)) (acc':List bR) (t':List (Nat×AV)) (h':List (Nat×Ob)),vX run nm l acc t h=some (acc',t',h')->
 ∀ Q:List bR->List (Nat×AV)->List (Nat×Ob)->Prop,Q acc' t' h'->kP P nm l acc t h Q
 |[],nm,acc,t,h,acc',t',h',e,Q,hQ=>by simp only [vX,Option.some.injEq,Prod.mk.injEq] at e;obtain ⟨rfl,rfl,rfl⟩:=e;simpa only [kP] using hQ
 |o::l,nm,acc,t,h,acc',t',h',e,Q,hQ=>by
  simp only [vX] at e
  simp only [kP]
  split at e
  ·rename_i hg
   split at e
   ·rename_i r hr
    simp only [hg]
    exact aat hrun hr _ (Fs hrun l _ _ _ _ _ _ _ e Q hQ)
   ·cases e
  ·rename_i g want hg
   simp only [hg]
   split at e
   ·rename_i b hb
    simp only [hb,pz]
    cases hw:(b==want) with
    |true=>
     rw [hw] at e
     simp only [cond_true] at e
     split at e
     ·rename_i r hr
      have hh:=aat hrun hr (fun r=>kP P (nm+8) l ((r.rd,r.upd.map Prod.fst)::acc) (bP t o.dst r.val) (r.upd++h) Q) (Fs hrun l _ _ _ _ _ _ _ e Q hQ)
      cases b<;>cases want<;>simp_all [Split]
     ·cases e
    |false=>
     rw [hw] at e
     simp only [cond_false] at e
     have hh:=Fs hrun l _ _ _ _ _ _ _ e Q hQ
     cases b<;>cases want<;>simp_all [Split]
   ·rename_i vs hb
    simp only [hb]
    exact Fs hrun l _ _ _ _ _ _ _ e Q hQ
   ·cases e
end
structure lG where
 sc:eG
 res:List iE
 nt:Nat
noncomputable def aav (t:List (Nat×AV)):Nat:= @List.rec (Nat×AV) (fun _=>Nat) 0 (fun _ _ ih=>Nat.add ih 1) t
noncomputable def sw (t:List (Nat×AV)) (h:List (Nat×Ob)):Option (List (Nat×AV)×List (Nat×Ob)):=cond (Nat.blt 90 (aav t)) (Dj [] t h) none
theorem aiJ {n:Nat} {t t':List (Nat×AV)} {h h':List (Nat×Ob)} (e:sw t h=some (t',h')):Wk ⟨n,t,h⟩ ⟨n,t',h'⟩:=by
 unfold sw at e
 cases hb:Nat.blt 90 (aav t) with
 |true=>rw [hb] at e;exact ZI e
 |false=>rw [hb] at e;cases e
noncomputable def Fu (hk:RunT) (code:FuncId->Option lG) (ex:eG->St->Option (Exit×St)):RunT:=fun f xs bs gs=>
 match hk f xs bs gs with
 |some r=>some r
 |none=>match code f with
 |some F=>bif decide (xs.length<=F.nt) then match ex F.sc ⟨8,pI 0 xs,outs bs gs⟩ with
  |some (.normal,s)=>match iZ s.t s.h F.res with
   |some vs=>some (vs,s.h)
   |none=>none
  |some (.ret,s)=>match iZ s.t s.h F.res with
   |some vs=>some (vs,s.h)
   |none=>none
  |_=>none else none
 |none=>none
noncomputable def exec (hk:RunT) (code:FuncId->Option lG):Nat->eG->St->Option (Exit×St)
 |0,_,_=>none
 |k+1,sc,s=>match sc with
  | .skip=>some (.normal,s)
  | .region ops true=>match vX (Fu hk code (exec hk code k)) s.n ops [] s.t s.h with
   |some (acc,t,h)=>bif rT ops acc.reverse then some (.normal,⟨s.n+8*ops.length,t,h⟩) else none
   |none=>none
  | .region ops false=>match vW (Fu hk code (exec hk code k)) s.n ops s.t s.h with
   |some (t,h)=>some (.normal,⟨s.n+8*ops.length,t,h⟩)
   |none=>none
  | .seq a b=>match exec hk code k a s with
   |some (.normal,s')=>exec hk code k b s'
   |r=>r
  | .cond c x y=>match ev s.t c with
   |some (.v (.bool true))=>exec hk code k x s
   |some (.v (.bool false))=>exec hk code k y s
   |_=>none
  | .block id c=>match exec hk code k c s with
   |some (.exit i,s')=>some ((bif i==id then .normal else .exit i),s')
   |r=>r
  | .loop c=>match exec hk code k c s with
   |some (.normal,s')=>match sw s'.t s'.h with
    |some (t,h)=>exec hk code k (.loop c) ⟨s'.n,t,h⟩
    |none=>exec hk code k (.loop c) s'
   |r=>r
  | .exit id=>some (.exit id,s)
  | .ret=>some (.ret,s)
section
variable {P:Program} {hk:RunT} {code:FuncId->Option lG}
def P6 (P:Program) (ex:eG->St->Option (Exit×St)):Prop:=∀ sc s e s',ex sc s=some (e,s')->∀ Q:Exit->St->Prop,Q e s'->iq P sc Q s
def qL (P:Program) (code:FuncId->Option lG):Prop:=∀ f F,code f=some F->aA P f F.sc F.res F.nt
theorem Me (hh:gF P hk) (hc:qL P code) {ex:eG->St->Option (Exit×St)} (hx:P6 P ex):gF P (Fu hk code ex):=by
 intro f xs bs gs vs h e
 simp only [Fu] at e
 cases hq:hk f xs bs gs with
 |some r=>rw [hq] at e;cases e;exact hh _ _ _ _ _ _ hq
 |none=>
 rw [hq] at e
 simp only at e
 split at e
 ·rename_i F hf
  cases hl:decide (xs.length<=F.nt) with
  |false=>rw [hl] at e;cases e
  |true=>
   rw [hl] at e
   simp only [cond_true] at e
   split at e
   ·rename_i s hs
    split at e
    ·rename_i vs' hv
     cases e
     exact ⟨s.t,F.res,hv,fun r bs' es hF=>fP.aO (hc f F hf) (of_decide_eq_true hl) (hx _ _ _ _ hs _ hF)⟩
    ·cases e
   ·rename_i s hs
    split at e
    ·rename_i vs' hv
     cases e
     exact ⟨s.t,F.res,hv,fun r bs' es hF=>fP.aO (hc f F hf) (of_decide_eq_true hl) (hx _ _ _ _ hs _ hF)⟩
    ·cases e
   ·cases e
 ·cases e
theorem Wk.rfl' {s:St}:Wk s s:=fun C ρ U a w hr hU=>⟨ρ,U,hr,hU⟩
theorem aiK:∀ (k:Nat) (c:eG) (s:St) (e:Exit) (s':St),exec hk code k (.loop c) s=some (e,s')->
 ∃ (n:Nat) (S:Nat->St),S 0=s/\(∀ i,i<n->∃ j s1,j<k/\exec hk code j c (S i)=some (.normal,s1)/\Wk s1 (S (i+1)))/\(∃ j,j<k/\exec hk code j c (S n)=some (e,s'))/\e≠.normal:=by
 intro k
 induction k with
 |zero=>intro c s e s' h;cases h
 |succ k ih=>
  intro c s e s' h
  have step:∀ s1 s2,exec hk code k c s=some (.normal,s1)->Wk s1 s2->exec hk code k (.loop c) s2=some (e,s')->∃ (n:Nat) (S:Nat->St),S 0=s/\(∀ i,i<n->∃ j s1,j<k+1/\exec hk code j c (S i)=some (.normal,s1)/\Wk s1 (S (i+1)))/\(∃ j,j<k+1/\exec hk code j c (S n)=some (e,s'))/\e≠.normal:=by
   intro s1 s2 h1 hw h
   obtain ⟨n,S,h2,h3,⟨j,hj,h4⟩,h5⟩:=ih c s2 e s' h
   refine ⟨n+1,fun i=>match i with|0=>s|i+1=>S i,rfl,fun i hi=> ?_,⟨j,by omega,h4⟩,h5⟩
   cases i with
   |zero=>exact ⟨k,s1,by omega,h1,by simp only [h2];exact hw⟩
   |succ i=>
    obtain ⟨j',s3,hj',h6,h7⟩:=h3 i (by omega)
    exact ⟨j',s3,by omega,h6,h7⟩
  simp only [exec] at h
  split at h
  ·rename_i s1 h1
   split at h
   ·rename_i t1 h2 hf
    exact step s1 _ h1 (aiJ (n:=s1.n) hf) h
   ·exact step s1 s1 h1 Wk.rfl' h
  ·rename_i hne
   refine ⟨0,fun _=>s,rfl,fun i hi=>absurd hi (by omega),⟨k,by omega,h⟩,?_⟩
   intro e0
   subst e0
   exact hne _ h
theorem P7 (hh:gF P hk) (hc:qL P code):∀ k,P6 P (exec hk code k):=by
 intro k
 induction k using Nat.strongRecOn with
 |_ k P8=>
 cases k with
 |zero=>intro sc s e s' h;cases h
 |succ k=>
  have ih:P6 P (exec hk code k):=P8 k (by omega)
  intro sc s e s' h Q hQ
  cases sc with
  |skip=>simp only [exec,Option.some.injEq,Prod.mk.injEq] at h;obtain ⟨rfl,rfl⟩:=h;exact hQ
  |region ops draw=>
   cases draw with
   |true=>
    simp only [exec] at h
    split at h
    ·rename_i acc t h' hd
     cases ho:rT ops acc.reverse with
     |false=>rw [ho] at h;cases h
     |true=>
      rw [ho] at h
      simp only [cond_true,Option.some.injEq,Prod.mk.injEq] at h
      obtain ⟨rfl,rfl⟩:=h
      simp only [iq,if_true,KU]
      exact Fs (Me hh hc ih) _ _ _ _ _ _ _ _ hd _ ⟨ho,hQ⟩
    ·cases h
   |false=>
    simp only [exec] at h
    split at h
    ·rename_i t h' hd
     simp only [Option.some.injEq,Prod.mk.injEq] at h
     obtain ⟨rfl,rfl⟩:=h
     simp only [iq,Bool.false_eq_true,if_false]
     exact Fq (Me hh hc ih) _ _ _ _ _ _ hd _ hQ
    ·cases h
  |seq a b=>
   simp only [exec] at h
   simp only [iq]
   split at h
   ·rename_i s1 h1
    exact ih _ _ _ _ h1 _ (ih _ _ _ _ h _ hQ)
   ·rename_i hne
    refine ih _ _ _ _ h _ ?_
    cases e with
    |normal=>exact absurd h (hne _)
    |_=>exact hQ
  |cond c x y=>
   simp only [exec] at h
   simp only [iq]
   split at h
   ·rename_i hb;rw [hb];exact ⟨fun _=>ih _ _ _ _ h _ hQ,fun hh=>by cases hh⟩
   ·rename_i hb;rw [hb];exact ⟨fun hh=>(by cases hh),fun _=>ih _ _ _ _ h _ hQ⟩
   ·cases h
  |block id c=>
   simp only [exec] at h
   simp only [iq]
   split at h
   ·rename_i i s1 h1
    simp only [Option.some.injEq,Prod.mk.injEq] at h
    obtain ⟨rfl,rfl⟩:=h
    refine ih _ _ _ _ h1 _ ?_
    simp only [En]
    by_cases hi:i=id
    ·subst hi
     simpa using hQ
    ·rw [if_neg hi]
     have hb:(i==id)=false:=by simp [hi]
     rw [hb] at hQ
     exact hQ
   ·rename_i hne
    refine ih _ _ _ _ h _ ?_
    cases e with
    |exit i=>exact absurd h (hne _ _)
    |_=>exact hQ
  |loop c=>
   obtain ⟨n,S,h1,h2,⟨j,hj,h3⟩,h4⟩:=aiK _ _ _ _ _ h
   simp only [iq]
   refine ⟨{i:Nat // i<=n},fun i=>S i.1,fun i=>n - i.1,⟨0,Nat.zero_le _⟩,fun C ρ U a w hr hU=>⟨ρ,U,by simp only [h1];exact hr,by simp only [h1];exact hU⟩,fun i=> ?_⟩
   obtain ⟨i,hi⟩:=i
   rcases Nat.lt_or_ge i n with hlt|hge
   ·obtain ⟨j',s1,hj',h5,h6⟩:=h2 i hlt
    exact P8 j' hj' _ _ _ _ h5 _ ⟨⟨i+1,hlt⟩,by simp only;omega,h6⟩
   ·have:i=n:=by omega
    subst this
    refine P8 j hj _ _ _ _ h3 _ ?_
    cases e with
    |normal=>exact absurd rfl h4
    |_=>exact hQ
  |exit id=>simp only [exec,Option.some.injEq,Prod.mk.injEq] at h;obtain ⟨rfl,rfl⟩:=h;exact hQ
  |ret=>simp only [exec,Option.some.injEq,Prod.mk.injEq] at h;obtain ⟨rfl,rfl⟩:=h;exact hQ
theorem P9 {m:Nat} {vs:List AV} {h:List (Nat×Ob)} {r:AV} {bs:List (List AV)} {es:List Ob} (e:mU m [] vs h=some (r,bs,es)):es=[]:=by
 unfold mU at e
 split at e
 ·split at e
  ·split at e
   ·rename_i es' he
    have h0:es'=[]:=by simpa [xX] using he.symm
    subst h0
    generalize (decide (m<=4)&&iD h (lX (List.range m)++uo [] 4) [] (outs _ []))=q at e
    cases q with
    |false=>cases e
    |true=>simp only [cond_true,Option.some.injEq,Prod.mk.injEq] at e;exact e.2.2.symm
   ·cases e
  ·cases e
 ·cases e
noncomputable def qM (hk:RunT) (code:FuncId->Option lG) (k:Nat) (f:FuncId) (xs:List AV):Option AV:=match Fu hk code (exec hk code k) f xs [] [] with
 |some (vs,h)=>match mU 0 [] vs h with
  |some (r,_,_)=>some r
  |none=>none
 |none=>none
theorem Qa (hh:gF P hk) (hc:qL P code) {k:Nat} {f:FuncId} {xs:List AV} {r:AV} (e:qM hk code k f xs=some r):Fn P f xs [] r [] []:=by
 simp only [qM] at e
 split at e
 ·rename_i vs h hr
  split at e
  ·rename_i r' b es hP
   cases e
   obtain ⟨t,res,hv,hrun⟩:=Me hh hc (P7 hh hc k) _ _ _ _ _ _ hr
   obtain ⟨hF,hl,_⟩:=Dh hv hP
   have hb0:b=[]:=List.length_eq_zero_iff.1 hl
   subst hb0
   have he0:es=[]:=P9 hP
   subst he0
   exact (hrun _ _ _ hF).EX
  ·cases e
 ·cases e
end
end Go.Eng
