/-
  Part of a proof: lemmas and definitions of this work.
  No condition.
-/
import Derived.Test.YthhjbngoibmpgaaGreatH04
set_option linter.all false
set_option maxRecDepth 100000
set_option maxHeartbeats 8000000
namespace Go.Eng
open Go
def ig (run:RunT) (nm:Nat) (o:av) (t:List (Nat×AV)) (h:List (Nat×Ob)):Option Rec:=
 match o.op with
 | .call f args=>match ev t f with
  |some (.fn g caps)=>match iO t args with
   |some xs=>if g<1000000 then lZ run nm h g (xs++caps) else if g<2000000 then lZ run nm h (g - 1000000) (caps++xs) else none
   |none=>none
  |_=>none
 | .jw neg x=>match qc (ev t x) with
  |some (some b)=>some ⟨.v (.bool (if neg then !b else b)),[],[]⟩
  |_=>none
 |op=>match iX nm t h op with
  |some e=>bif preB t h op then some ⟨e.val,e.upd,bP t op⟩ else none
  |none=>none
section
variable {P:Program} {run:RunT}
theorem WC {nm:Nat} {t:List (Nat×AV)} {h:List (Nat×Ob)} {op:dZ} {r:Rec} (e:(match iX nm t h op with
 |some e=>bif preB t h op then some (⟨e.val,e.upd,bP t op⟩:Rec) else none
 |none=>none)=some r) (k:List (Nat×AV)->List (Nat×Ob)->E->Prop) (hk:∀ p,k t h ⟨p,r.val,r.upd⟩):qd nm t h op (ax nm t h op) k:=by
 split at e
 ·rename_i e0 h0
  cases hp:preB t h op with
  |false=>rw [hp] at e;cases e
  |true=>
   rw [hp] at e
   simp only [cond_true,Option.some.injEq] at e
   subst e
   have h1:ax nm t h op=some e0:=by rw [Ab];exact h0
   have h2:=DX h1 hp
   rw [h1]
   exact ⟨h2,hk _⟩
 ·cases e
theorem WE {nm:Nat} {t:List (Nat×AV)} {h:List (Nat×Ob)} {op:dZ} {r:Rec} (e:(match iX nm t h op with
 |some e=>bif preB t h op then some (⟨e.val,e.upd,bP t op⟩:Rec) else none
 |none=>none)=some r) (k:Rec->Prop) (hk:k r):onE (ax nm t h op) fun e=>k ⟨e.val,e.upd,bP t op⟩:=by
 split at e
 ·rename_i e0 h0
  cases hp:preB t h op with
  |false=>rw [hp] at e;cases e
  |true=>
   rw [hp] at e
   simp only [cond_true,Option.some.injEq] at e
   subst e
   have h1:ax nm t h op=some e0:=by rw [Ab];exact h0
   have h2:=DX h1 hp
   rw [h1]
   exact ⟨h2,hk⟩
 ·cases e
def l6:dZ->Bool
 | .call _ _=>false
 | .jw _ _=>false
 |_=>true
theorem LJ {nm:Nat} {o:av} {t:List (Nat×AV)} {h:List (Nat×Ob)} (hp:l6 o.op=true):ig run nm o t h=(match iX nm t h o.op with
 |some e=>bif preB t h o.op then some (⟨e.val,e.upd,bP t o.op⟩:Rec) else none
 |none=>none):=by
 obtain ⟨dst,op,guard,af⟩:=o
 cases op<;>first|(simp [l6] at hp;done)|rfl
theorem LK {nm:Nat} {o:av} {t:List (Nat×AV)} {h:List (Nat×Ob)} {Q:List (Nat×AV)->List (Nat×Ob)->Prop} (hp:l6 o.op=true):
 iE P nm o t h Q=qd nm t h o.op (ax nm t h o.op) fun t h e=>Q (aV t o.dst e.val) (e.upd++h):=by
 obtain ⟨dst,op,guard,af⟩:=o
 cases op<;>first|(simp [l6] at hp;done)|rfl
theorem WG {nm:Nat} {o:av} {t:List (Nat×AV)} {h:List (Nat×Ob)} {k:Rec->Prop} (hp:l6 o.op=true):
 lN P nm o t h k=onE (ax nm t h o.op) fun e=>k ⟨e.val,e.upd,bP t o.op⟩:=by
 obtain ⟨dst,op,guard,af⟩:=o
 cases op<;>first|(simp [l6] at hp;done)|rfl
theorem WH (hrun:fK P run) {nm:Nat} {o:av} {t:List (Nat×AV)} {h:List (Nat×Ob)} {r:Rec} (e:ig run nm o t h=some r) (Q:List (Nat×AV)->List (Nat×Ob)->Prop)
 (hQ:Q (aV t o.dst r.val) (r.upd++h)):iE P nm o t h Q:=by
 cases hp:l6 o.op with
 |true=>
  rw [LJ hp] at e
  rw [LK hp]
  exact WC e (fun t h e=>Q (aV t o.dst e.val) (e.upd++h)) fun _=>hQ
 |false=>
  obtain ⟨dst,op,guard,af⟩:=o
  cases op
  case call f args=>
   simp only [ig] at e
   simp only [iE]
   split at e
   ·rename_i g caps hf
    split at e
    ·rename_i xs hx
     rw [hf,hx]
     split at e
     ·rename_i hg
      simp only [iQ,if_pos hg]
      exact (mZ hrun e) h (fun _ _=>rfl) _ hQ
     ·rename_i hg
      split at e
      ·rename_i hg2
       simp only [iQ,if_neg hg,if_pos hg2]
       exact (mZ hrun e) h (fun _ _=>rfl) _ hQ
      ·cases e
    ·cases e
   ·cases e
  case jw neg x=>
   simp only [ig] at e
   simp only [iE]
   split at e
   ·rename_i b hb
    cases e
    rw [hb]
    exact hQ
   ·cases e
  all_goals simp [l6] at hp
theorem WI (hrun:fK P run) {nm:Nat} {o:av} {t:List (Nat×AV)} {h:List (Nat×Ob)} {r:Rec} (e:ig run nm o t h=some r) (k:Rec->Prop) (hk:k r):lN P nm o t h k:=by
 cases hp:l6 o.op with
 |true=>
  rw [LJ hp] at e
  rw [WG hp]
  exact WE e k hk
 |false=>
  obtain ⟨dst,op,guard,af⟩:=o
  cases op
  case call f args=>
   simp only [ig] at e
   simp only [lN]
   split at e
   ·rename_i g caps hf
    split at e
    ·rename_i xs hx
     rw [hf,hx]
     split at e
     ·rename_i hg
      simp only [iQ,if_pos hg]
      exact ⟨r,mZ hrun e,hk⟩
     ·rename_i hg
      split at e
      ·rename_i hg2
       simp only [iQ,if_neg hg,if_pos hg2]
       exact ⟨r,mZ hrun e,hk⟩
      ·cases e
    ·cases e
   ·cases e
  case jw neg x=>
   simp only [ig] at e
   simp only [lN]
   split at e
   ·rename_i b hb
    cases e
    rw [hb]
    exact hk
   ·cases e
  all_goals simp [l6] at hp
noncomputable def oP {α:Type} (l:List (Nat×α)) (k:Nat):Option α:= @List.rec (Nat×α) (fun _=>Option α) none (fun p _ ih=>cond (Nat.beq p.1 k) (some p.2) ih) l
theorem qH {α:Type}:∀ (l:List (Nat×α)) (k:Nat),oP l k=get l k
 |[],k=>rfl
 |(j,x)::l,k=>by
  show cond (Nat.beq j k) (some x) (oP l k)=if j=k then some x else get l k
  rw [qH l k]
  cases hb:Nat.beq j k with
  |true=>rw [if_pos (Nat.eq_of_beq_eq_true hb)];rfl
  |false=>rw [if_neg (Nat.ne_of_beq_eq_false hb)];rfl
abbrev l7:=RunT->Nat->List (Nat×AV)->List (Nat×Ob)->Option Rec
noncomputable def jI (x:Operand) (t:List (Nat×AV)):Option AV:=match x with
 | .tmp k=>oP t k
 |x=>ev t x
theorem oQ (x:Operand) (t:List (Nat×AV)):jI x t=ev t x:=by
 cases x<;>first|rfl|(simp only [jI,ev,qH])
noncomputable def nS (x:AV):Bool:= @AV.rec (fun _=>Bool) (fun _=>Bool) (fun _=>Bool) (fun _=>true) (fun _ ih=>ih) (fun _ ih=>ih) (fun _ _ _=>true) (fun _ _ _ _=>false) (fun _ _=>false) (fun _ _ _ _=>false) (fun _ _ _=>true) (fun _=>false) (fun _ _ ih=>ih) true (fun _ _ a b=>cond a b false) true (fun _ _ _ _=>true) x
noncomputable def l8 (l:List AV):Bool:= @List.rec AV (fun _=>Bool) true (fun c _ ih=>cond (nS c) ih false) l
theorem LM (x:AV):nS x=x.pure:=by
 refine AV.rec (motive_1:=fun x=>nS x=x.pure) (motive_2:=fun xs=>(@AV.rec_1 (fun _=>Bool) (fun _=>Bool) (fun _=>Bool) (fun _=>true) (fun _ ih=>ih) (fun _ ih=>ih) (fun _ _ _=>true) (fun _ _ _ _=>false) (fun _ _=>false) (fun _ _ _ _=>false) (fun _ _ _=>true) (fun _=>false) (fun _ _ ih=>ih) true (fun _ _ a b=>cond a b false) true (fun _ _ _ _=>true) xs)=bf xs) (motive_3:=fun _=>True) ?_ ?_ ?_ ?_ ?_ ?_ ?_ ?_ ?_ ?_ ?_ ?_ ?_ ?_ x
 case refine_2=>intro cs ih;rw [AV.pure];exact ih
 case refine_3=>intro cs ih;rw [AV.pure];exact ih
 case refine_10=>intro f cs ih;rw [AV.pure];exact ih
 case refine_11=>simp only [bf]
 case refine_12=>
  intro c cs a b
  simp only [bf]
  rw [<-a,<-b]
  cases hb:nS c
  ·show cond (nS c) _ false=_
   rw [hb];rfl
  ·show cond (nS c) _ false=_
   rw [hb];rfl
 all_goals intros;first|trivial|(simp only [AV.pure];rfl)
theorem xM:∀ l:List AV,l8 l=bf l
 |[]=>by simp only [bf];rfl
 |c::l=>by
  simp only [bf]
  show cond (nS c) (l8 l) false=_
  rw [LM,xM l]
  cases c.pure<;>rfl
noncomputable def iM (h:List (Nat×Ob)) (b:Nat):Bool:=match oP h b with
 |some (.box _)=>false
 |_=>true
theorem sO {h:List (Nat×Ob)} {S:List (Nat×Nat)} {b:Nat} (e:iM h b=true):kK h S b=true:=by
 simp only [iM,qH] at e
 unfold kK
 split
 ·rename_i hh;rw [hh] at e;cases e
 ·rfl
theorem WJ {h:List (Nat×Ob)} (h0:iM h 0=true) (h1:iM h 1=true) (h2:iM h 2=true) (h3:iM h 3=true):fw h [] [] []=true:=by
 simp [fw,sO h0,sO h1,sO h2,sO h3]
theorem WK {h:List (Nat×Ob)} {o:Ob} (h1:iM h 1=true) (h2:iM h 2=true) (h3:iM h 3=true):fw h [(0,0)] [] [(0,o)]=true:=by
 have h0:kK h [(0,0)] 0=true:=by
  unfold kK
  split<;>simp [get]
 simp [fw,h0,sO h1,sO h2,sO h3]
noncomputable def tb (b:Nat) (x:AV):Option AV:=match x with
 | .ptr b' j=>cond (Nat.beq b' b) (some (.ptr 0 j)) none
 |x=>cond (nS x) (some x) none
noncomputable def Ef (b:Nat) (l:List AV):Option (List AV):= @List.rec AV (fun _=>Option (List AV)) (some []) (fun c _ ih=>match tb b c with
 |some c'=>(match ih with
  |some l'=>some (c'::l')
  |none=>none)
 |none=>none) l
theorem WL {b:Nat} {x y:AV} (e:tb b y=some x):(∃ j,y= .ptr b j/\x= .ptr 0 j)\/(x=y/\x.pure=true):=by
 have hg:∀ z:AV,cond (nS z) (some z) none=some x->x=z/\x.pure=true:=by
  intro z hz
  cases hp:nS z with
  |true=>rw [hp] at hz;cases hz;exact ⟨rfl,by rw [<-LM];exact hp⟩
  |false=>rw [hp] at hz;cases hz
 cases y
 case ptr b' j=>
  have e:cond (Nat.beq b' b) (some (AV.ptr 0 j)) none=some x:=e
  cases hb:Nat.beq b' b with
  |true=>rw [hb] at e;cases e;exact .inl ⟨j,by rw [Nat.eq_of_beq_eq_true hb],rfl⟩
  |false=>rw [hb] at e;cases e
 all_goals exact .inr (hg _ e)
theorem LP {b:Nat}:∀ (ys xs:List AV),Ef b ys=some xs->gK [b] xs ys
 |[],xs,e=>by
  cases e
  simp only [gK]
 |y::ys,xs,e=>by
  have e:(match tb b y with
   |some c'=>(match Ef b ys with
    |some l'=>some (c'::l')
    |none=>none)
   |none=>none)=some xs:=e
  split at e
  ·rename_i c' hc
   split at e
   ·rename_i l' hl
    cases e
    have ht:=LP ys l' hl
    rcases WL hc with ⟨j,rfl,rfl⟩|⟨rfl,hp⟩
    ·simp only [gK]
     exact ⟨rfl,ht⟩
    ·cases c'<;>first|(simp [AV.pure] at hp;done)|(simp only [gK];first|exact ⟨⟨rfl,hp⟩,ht⟩|exact ⟨⟨trivial,hp⟩,ht⟩)
   ·cases e
  ·cases e
noncomputable def fp (l:List AV):Option Nat:= @List.rec AV (fun _=>Option Nat) none (fun c _ ih=>match c with
 | .ptr b _=>some b
 |_=>ih) l
noncomputable def WM (nm:Nat) (vs:List AV) (h':List (Nat×Ob)):Option Rec:=match kR 0 (qF 0 h' vs).eraseDups vs h' with
 |some (r,_,es)=>bif decide (es.length<=8)&&bZ es.length r then some ⟨sh nm r,bS nm es,[]⟩ else none
 |none=>none
noncomputable def n4 (h:List (Nat×Ob)):Bool:=cond (iM h 1) (cond (iM h 2) (iM h 3) false) false
theorem LQ {h:List (Nat×Ob)} (e:n4 h=true):iM h 1=true/\iM h 2=true/\iM h 3=true:=by
 unfold n4 at e
 cases h1:iM h 1<;>rw [h1] at e<;>try cases e
 cases h2:iM h 2<;>rw [h2] at e<;>try cases e
 exact ⟨rfl,rfl,e⟩
noncomputable def Ak (run:RunT) (nm:Nat) (h:List (Nat×Ob)) (f:FuncId) (ys:List AV):Option Rec:=
 cond (l8 ys) (match run f ys [] [] with
  |some (vs,h')=>cond (and (l8 vs) (and (iM h' 0) (n4 h'))) (some ⟨aD vs,[],[]⟩) (WM nm vs h')
  |none=>none) (match fp ys with
  |some b=>(match Ef b ys with
   |some xs=>(match oP h b with
    |some (.box cs)=>cond (l8 cs) (match run f xs [cs] [] with
     |some (vs,h')=>(match oP h' 0 with
      |some (.box cs')=>cond (and (l8 vs) (and (l8 cs') (n4 h'))) (some ⟨aD vs,[(b,.box cs')],[b]⟩) (lZ run nm h f ys)
      |_=>lZ run nm h f ys)
     |none=>none) (lZ run nm h f ys)
    |_=>lZ run nm h f ys)
   |none=>lZ run nm h f ys)
  |none=>lZ run nm h f ys)
theorem xN:∀ (vs:List AV),bf vs=true->(aD vs).pure=true
 |[],h=>by simp [aD,AV.pure,bf]
 |[x],h=>by simpa [aD,bf] using h
 |x::y::l,h=>by simpa [aD,AV.pure] using h
theorem LU {P:Program} {run:RunT} (hrun:fK P run) {nm:Nat} {h:List (Nat×Ob)} {f:FuncId} {ys:List AV} {r:Rec} (e:Ak run nm h f ys=some r):iR P nm f ys h r:=by
 unfold Ak at e
 cases hp:l8 ys with
 |true=>
  rw [hp] at e
  simp only [cond_true] at e
  rw [xM] at hp
  split at e
  ·rename_i vs h' hr
   cases hc:(and (l8 vs) (and (iM h' 0) (n4 h'))) with
   |true=>
    rw [hc] at e
    cases e
    simp only [Bool.and_eq_true] at hc
    obtain ⟨hv,h0,h1⟩:=hc
    obtain ⟨h1,h2,h3⟩:=LQ h1
    rw [xM] at hv
    obtain ⟨t,res,hv',hrun'⟩:=hrun _ _ _ _ _ _ hr
    exact Fn.zR (hrun' _ _ _ (Fin.aQ vs hv' (WJ h0 h1 h2 h3) (xN vs hv) rfl)).xC hp (xN vs hv)
   |false=>
    rw [hc] at e
    simp only [cond_false] at e
    refine mZ hrun (?_:lZ run nm h f ys=some r)
    unfold lZ
    rw [hp,hr]
    exact e
  ·cases e
 |false=>
  rw [hp] at e
  simp only [cond_false] at e
  split at e
  ·rename_i b hb
   split at e
   ·rename_i xs hx
    split at e
    ·rename_i cs hcs
     rw [qH] at hcs
     cases hpc:l8 cs with
     |true=>
      rw [hpc] at e
      simp only [cond_true] at e
      rw [xM] at hpc
      split at e
      ·rename_i vs h' hr
       split at e
       ·rename_i cs' hcs'
        rw [qH] at hcs'
        cases hc:(and (l8 vs) (and (l8 cs') (n4 h'))) with
        |true=>
         rw [hc] at e
         cases e
         simp only [Bool.and_eq_true] at hc
         obtain ⟨hv,hc',h1⟩:=hc
         obtain ⟨h1,h2,h3⟩:=LQ h1
         rw [xM] at hv hc'
         obtain ⟨t,res,hv',hrun'⟩:=hrun _ _ _ _ _ _ hr
         have hF:=(hrun' _ _ _ (Fin.bH vs hv' hcs' (WK h1 h2 h3) (xN vs hv) hc' rfl rfl)).xC
         have:=hF.sG (h:=h) nm [b] [cs'] (LP ys xs hx) (by simp only [mU,and_true,hcs];exact uY cs hpc) (by simp) (by simp) rfl (Dz [cs'] (by simp only [uX,hc',Bool.and_true])) rfl (by simp) (zP _ (xN vs hv))
         rw [Dy nm _ (xN vs hv)] at this
         exact this
        |false=>
         rw [hc] at e
         exact mZ hrun e
       ·exact mZ hrun e
      ·cases e
     |false=>
      rw [hpc] at e
      exact mZ hrun e
    ·exact mZ hrun e
   ·exact mZ hrun e
  ·exact mZ hrun e
noncomputable def sP:dZ->l7:=fun op run nm t h=>ig run nm ⟨none,op,none,[]⟩ t h
noncomputable def oU (cs:List AV) (n:Nat):Bool:= @List.rec AV (fun _=>Nat->Bool) (fun n=>Nat.beq n 0) (fun _ _ ih n=>cond (Nat.beq n 0) false (ih (Nat.pred n))) cs n
noncomputable def Al (cs:List AV):Nat:= @List.rec AV (fun _=>Nat) 0 (fun _ _ ih=>Nat.add ih 1) cs
noncomputable def Am (cs:List AV) (n:Nat):List AV:= @List.rec AV (fun _=>Nat->List AV) (fun _=>[]) (fun c _ ih n=>cond (Nat.beq n 0) [] (c::ih (Nat.pred n))) cs n
noncomputable def xO (cs:List AV) (n:Nat):List AV:= @List.rec AV (fun _=>Nat->List AV) (fun _=>[]) (fun c l ih n=>cond (Nat.beq n 0) (c::l) (ih (Nat.pred n))) cs n
noncomputable def Ao (cs:List AV) (n:Nat):Option AV:= @List.rec AV (fun _=>Nat->Option AV) (fun _=>none) (fun c _ ih n=>cond (Nat.beq n 0) (some c) (ih (Nat.pred n))) cs n
noncomputable def xP (cs ds:List AV):List AV:= @List.rec AV (fun _=>List AV) ds (fun c _ ih=>c::ih) cs
theorem xQ:∀ (cs:List AV) (n:Nat),oU cs n=true->cs.length=n
 |[],n,e=>(Nat.eq_of_beq_eq_true (show Nat.beq n 0=true from e)).symm
 |c::cs,n,e=>by
  have e:cond (Nat.beq n 0) false (oU cs (Nat.pred n))=true:=e
  cases n with
  |zero=>cases e
  |succ n=>rw [List.length_cons,xQ cs n e]
theorem Eg:∀ cs:List AV,Al cs=cs.length
 |[]=>rfl
 |c::cs=>by show Al cs+1=_;rw [Eg cs];rfl
theorem Eh:∀ (cs:List AV) (n:Nat),Am cs n=cs.take n
 |[],n=>by rw [List.take_nil];rfl
 |c::cs,0=>rfl
 |c::cs,n+1=>by show c::Am cs n=_;rw [Eh cs n];rfl
theorem Ap:∀ (cs:List AV) (n:Nat),xO cs n=cs.drop n
 |[],n=>by rw [List.drop_nil];rfl
 |c::cs,0=>rfl
 |c::cs,n+1=>by show xO cs n=_;rw [Ap cs n];rfl
theorem Ei:∀ (cs:List AV) (n:Nat),Ao cs n=cs[n]?
 |[],n=>rfl
 |c::cs,0=>rfl
 |c::cs,n+1=>by show Ao cs n=_;rw [Ei cs n];rfl
theorem LV (cs ds:List AV):xP cs ds=cs++ds:=by
 induction cs with
 |nil=>rfl
 |cons c cs ih=>show c::xP cs ds=_;rw [ih];rfl
noncomputable def Aq (l:List AV):Bool:= @List.rec AV (fun _=>Bool) true (fun c _ ih=>cond c.one ih false) l
theorem LW:∀ l:List AV,Aq l=jQ l
 |[]=>rfl
 |c::l=>by
  show cond c.one (Aq l) false=(c.one&&jQ l)
  rw [LW l];cases c.one<;>rfl
noncomputable def Ej (x:AV):Option (List AV):=match x with
 | .agg cs=>cond (Aq cs) (some cs) none
 |x=>cond x.one (some [x]) none
theorem LX (x:AV):Ej x=jR x:=by
 have hg:∀ y:AV,cond y.one (some [y]) none=if y.one=true then some [y] else none:=fun y=>by cases y.one<;>rfl
 cases x
 case agg cs=>
  show cond (Aq cs) (some cs) none=if jQ cs=true then some cs else none
  rw [LW];cases jQ cs<;>rfl
 all_goals first|rfl|exact hg (.v _)|exact hg (.aN _)|exact hg (.sl _ _)|exact hg (.own _ _ _ _)|exact hg (.ptr _ _)|exact hg (.rp _ _ _ _)|exact hg (.bB _ _)|exact hg (.mp _)|exact hg (.fn _ _)
noncomputable def Em (cs:List AV) (j:Nat) (ys:List AV) (sz:Nat):List AV:=cond (Nat.beq j 0) (cond (oU cs sz) ys (xP ys (xO cs sz))) (xP (Am cs j) (xP ys (xO cs (Nat.add j sz))))
theorem WN {cs:List AV} {j:Nat} {ys:List AV} {sz:Nat} (e:oU ys sz=true):Em cs j ys sz=splice cs j ys:=by
 have hl:=xQ ys sz e
 subst hl
 unfold Em splice
 cases hj:Nat.beq j 0 with
 |true=>
  have:=Nat.eq_of_beq_eq_true hj;subst this
  cases hc:oU cs ys.length with
  |true=>
   have:=xQ _ _ hc
   simp [List.drop_eq_nil_of_le,this]
  |false=>simp [LV,Ap]
 |false=>simp [LV,Ap,Eh]
noncomputable def En (f:Operand) (args:List Operand):l7:=fun run nm t h=>match jI f t with
 |some (.fn g caps)=>(match iO t args with
  |some xs=>cond (Nat.blt g 1000000) (Ak run nm h g (xs++caps)) (cond (Nat.blt g 2000000) (Ak run nm h (g - 1000000) (caps++xs)) none)
  |none=>none)
 |_=>none
noncomputable def LY (op:BinOp) (k:IntKind) (a b:Int):Option Value:=match op with
 | .add=>some (.int k (k.wrap (a+b)))
 | .sub=>some (.int k (k.wrap (a - b)))
 | .eql=>some (.bool (a==b))
 | .neq=>some (.bool (a !=b))
 | .lss=>some (.bool (decide (a<b)))
 | .leq=>some (.bool (decide (a<=b)))
 | .gtr=>some (.bool (decide (b<a)))
 | .geq=>some (.bool (decide (b<=a)))
 |_=>none
noncomputable def LZ (op:BinOp) (x y:Operand):l7:=fun run nm t h=>match jI x t with
 |some (.v (.int .i64 a))=>(match jI y t with
  |some (.v (.int .i64 b))=>(match LY op .i64 a b with
   |some c=>some ⟨.v c,[],[]⟩
   |none=>sP (.bin op x y) run nm t h)
  |_=>sP (.bin op x y) run nm t h)
 |_=>sP (.bin op x y) run nm t h
theorem WO {op:BinOp} {a b:Int} {c:Value} (e:LY op .i64 a b=some c):xk op (.int .i64 a) (.int .i64 b)=some c/\jc op (.int .i64 a) (.int .i64 b)=some c:=by
 cases op<;>first|(cases e;exact ⟨rfl,rfl⟩)|cases e
noncomputable def L6 (x:Operand):l7:=fun _ _ t _=>match jI x t with
 |some y=>some ⟨y,[],[]⟩
 |none=>none
noncomputable def L8 (c a b:Operand):l7:=fun _ _ t _=>match jI c t with
 |some (.v (.bool true))=>(match jI a t with
  |some y=>some ⟨y,[],[]⟩
  |none=>none)
 |some (.v (.bool false))=>(match jI b t with
  |some y=>some ⟨y,[],[]⟩
  |none=>none)
 |_=>none
noncomputable def WQ (zs:List Value):l7:=fun _ nm _ _=>some ⟨.ptr nm 0,[(nm,.box (zs.map .v))],[]⟩
noncomputable def L9 (x:Operand):l7:=fun _ nm t _=>match jI x t with
 |some y=>(match Ej y with
  |some ys=>some ⟨.ptr nm 0,[(nm,.box ys)],[]⟩
  |none=>none)
 |none=>none
noncomputable def Ma (ag:Bool) (sz:Nat) (x:Operand):l7:=fun run nm t h=>match jI x t with
 |some (.ptr b j)=>(match oP h b with
  |some (.box cs)=>cond ag (cond (and (Nat.beq j 0) (oU cs sz)) (some ⟨.agg cs,[],[b]⟩) (cond (Nat.ble (Nat.add j sz) (Al cs)) (some ⟨.agg (Am (xO cs j) sz),[],[b]⟩) none)) (match Ao cs j with
   |some c=>some ⟨c,[],[b]⟩
   |none=>none)
  |_=>none)
 |_=>sP (.load ag sz x) run nm t h
noncomputable def Mc (sz:Nat) (x y:Operand):l7:=fun run nm t h=>match jI x t with
 |some (.ptr b j)=>(match jI y t with
  |some z=>(match oP h b with
   |some (.box cs)=>(match Ej z with
    |some ys=>cond (and (oU ys sz) (Nat.ble (Nat.add j sz) (Al cs))) (some ⟨.v undef,[(b,.box (Em cs j ys sz))],[b]⟩) none
    |none=>none)
   |_=>none)
  |none=>none)
 |_=>sP (.store sz x y) run nm t h
noncomputable def Md (off:Nat) (x:Operand):l7:=fun run nm t h=>match jI x t with
 |some (.ptr b j)=>(match oP h b with
  |some (.box _)=>some ⟨.ptr b (j+off),[],[b]⟩
  |_=>none)
 |_=>sP (.jo off x) run nm t h
noncomputable def Me (i:Nat) (x:Operand):l7:=fun _ _ t _=>match jI x t with
 |some (.aN cs)=>(match Ao cs i with
  |some c=>some ⟨c,[],[]⟩
  |none=>none)
 |_=>none
noncomputable def oV (op:dZ):l7:=match op with
 | .bO x=>L6 x
 | .pick c a b=>L8 c a b
 | .alloc zs=>WQ zs
 | .box x=>L9 x
 | .load ag sz x=>Ma ag sz x
 | .store sz x y=>Mc sz x y
 | .jo off x=>Md off x
 | .ext i x=>Me i x
 | .call f args=>En f args
 | .bin op x y=>LZ op x y
 |op=>sP op
noncomputable def sQ (run:RunT) (nm:Nat) (o:av) (t:List (Nat×AV)) (h:List (Nat×Ob)):Option Rec:=oV o.op run nm t h
theorem WR {run:RunT} {nm:Nat} {o:av} {t:List (Nat×AV)} {h:List (Nat×Ob)}:ig run nm o t h=ig run nm ⟨none,o.op,none,[]⟩ t h:=rfl
theorem Mf {run:RunT} {nm:Nat} {o:av} {t:List (Nat×AV)} {h:List (Nat×Ob)} {r:Rec} (hc:∀ f l,o.op≠.call f l) (e:sQ run nm o t h=some r):ig run nm o t h=some r:=by
 rw [WR]
 obtain ⟨dst,op,guard,af⟩:=o
 simp only [sQ] at e
 show ig run nm ⟨none,op,none,[]⟩ t h=some r
 cases op
 case call f l=>exact (hc f l rfl).elim
 case bO x=>
  simp only [oV,L6,oQ] at e
  simp only [ig,iX,ax]
  cases hx:ev t x with
  |none=>rw [hx] at e;cases e
  |some y=>rw [hx] at e;exact e
 case pick c a b=>
  simp only [oV,L8,oQ] at e
  simp only [ig,iX,ax]
  split at e
  ·rename_i hc
   rw [hc]
   cases hx:ev t a with
   |none=>rw [hx] at e;cases e
   |some y=>rw [hx] at e;exact e
  ·rename_i hc
   rw [hc]
   cases hx:ev t b with
   |none=>rw [hx] at e;cases e
   |some y=>rw [hx] at e;exact e
  ·cases e
 case alloc zs=>exact e
 case box x=>
  simp only [oV,L9,oQ,LX] at e
  simp only [ig,iX,ax]
  cases hx:ev t x with
  |none=>rw [hx] at e;cases e
  |some y=>
   rw [hx] at e
   simp only at e ⊢
   cases hy:jR y with
   |none=>rw [hy] at e;cases e
   |some ys=>rw [hy] at e;exact e
 case ext i x=>
  simp only [oV,Me,oQ,Ei] at e
  simp only [ig,iX,ax]
  split at e
  ·rename_i cs hc
   rw [hc]
   simp only
   cases hx:cs[i]? with
   |none=>rw [hx] at e;cases e
   |some y=>rw [hx] at e;exact e
  ·cases e
 case jo off x=>
  simp only [oV,Md,oQ,qH] at e
  split at e
  ·rename_i b j hb
   split at e
   ·rename_i cs hc
    simp only [ig,iX,ax,preB,bP,hb,hc]
    exact e
   ·cases e
  ·exact e
 case bin op x y=>
  simp only [oV,LZ,oQ] at e
  split at e
  ·rename_i a ha
   split at e
   ·rename_i b hb
    split at e
    ·rename_i c hc
     obtain ⟨h1,h2⟩:=WO hc
     simp only [ig,iX,preB,bP,ha,hb,h1,h2]
     exact e
    ·exact e
   ·exact e
  ·exact e
 case load ag sz x=>
  simp only [oV,Ma,oQ,qH,Ei,Eh,Ap,Eg] at e
  split at e
  ·rename_i b j hb
   split at e
   ·rename_i cs hc
    simp only [ig,iX,ax,preB,bP,hb,hc]
    cases ag with
    |true=>
     simp only [cond_true] at e
     cases hj:(and (Nat.beq j 0) (oU cs sz)) with
     |true=>
      rw [hj] at e
      rw [Bool.and_eq_true] at hj
      have h1:=Nat.eq_of_beq_eq_true hj.1
      have h2:=xQ _ _ hj.2
      subst h1
      rw [if_pos rfl,if_pos (by omega),List.drop_zero,List.take_of_length_le (by omega)]
      exact e
     |false=>
     rw [hj] at e
     simp only [cond_false] at e
     cases hl:Nat.ble (Nat.add j sz) cs.length with
     |true=>
      have hl':j+sz<=cs.length:=Nat.le_of_ble_eq_true hl
      rw [hl] at e;rw [if_pos rfl,if_pos hl'];exact e
     |false=>rw [hl] at e;cases e
    |false=>
     simp only [cond_false] at e
     rw [if_neg (by simp)]
     cases hx:cs[j]? with
     |none=>rw [hx] at e;cases e
     |some y=>rw [hx] at e;exact e
   ·cases e
  ·exact e
 case store sz x y=>
  simp only [oV,Mc,oQ,qH,LX,Eg] at e
  split at e
  ·rename_i b j hb
   split at e
   ·rename_i z hz
    split at e
    ·rename_i cs hc
     split at e
     ·rename_i ys hy
      cases hl:(and (oU ys sz) (Nat.ble (Nat.add j sz) cs.length)) with
      |false=>rw [hl] at e;cases e
      |true=>
       rw [hl] at e
       rw [Bool.and_eq_true] at hl
       have h1:=xQ _ _ hl.1
       have h2:j+sz<=cs.length:=Nat.le_of_ble_eq_true hl.2
       rw [WN hl.1] at e
       simp only [ig,iX,ax,preB,bP,hb,hz,hc,hy,if_pos (And.intro h1 h2)]
       exact e
     ·cases e
    ·cases e
   ·cases e
  ·exact e
 all_goals exact e
theorem Mg (hrun:fK P run) {f:Operand} {args:List Operand} {nm:Nat} {t:List (Nat×AV)} {h:List (Nat×Ob)} {r:Rec} (e:En f args run nm t h=some r):
 iQ (ev t f) (iO t args) fun g xs=>iR P nm g xs h r:=by
 simp only [En,oQ] at e
 split at e
 ·rename_i g caps hf
  split at e
  ·rename_i xs hx
   rw [hf,hx]
   cases hg:Nat.blt g 1000000 with
   |true=>
    rw [hg] at e
    have hg':g<1000000:=Nat.le_of_ble_eq_true hg
    simp only [iQ]
    rw [if_pos hg']
    exact LU hrun e
   |false=>
    rw [hg] at e
    have hn:¬ g<1000000:=fun hh=>by rw [show Nat.blt g 1000000=true from Nat.ble_eq_true_of_le hh] at hg;cases hg
    cases hg2:Nat.blt g 2000000 with
    |true=>
     rw [hg2] at e
     have hg':g<2000000:=Nat.le_of_ble_eq_true hg2
     simp only [iQ]
     rw [if_neg hn,if_pos hg']
     exact LU hrun e
    |false=>rw [hg2] at e;cases e
  ·cases e
 ·cases e
theorem Mh {f:Option AV} {l:Option (List AV)} {p q:FuncId->List AV->Prop} (h:∀ g xs,p g xs->q g xs) (e:iQ f l p):iQ f l q:=by
 revert e
 unfold iQ
 split
 ·rename_i g caps xs
  intro e
  by_cases h1:g<1000000
  ·rw [if_pos h1] at e ⊢;exact h _ _ e
  ·rw [if_neg h1] at e ⊢
   by_cases h2:g<2000000
   ·rw [if_pos h2] at e ⊢;exact h _ _ e
   ·rw [if_neg h2] at e;exact e.elim
 ·exact id
theorem WS (hrun:fK P run) {nm:Nat} {o:av} {t:List (Nat×AV)} {h:List (Nat×Ob)} {r:Rec} (e:sQ run nm o t h=some r) (Q:List (Nat×AV)->List (Nat×Ob)->Prop)
 (hQ:Q (aV t o.dst r.val) (r.upd++h)):iE P nm o t h Q:=by
 by_cases hc:∀ f l,o.op≠.call f l
 ·exact WH hrun (Mf hc e) Q hQ
 ·obtain ⟨dst,op,guard,af⟩:=o
  cases op
  case call f l=>
   have:=Mg (P:=P) hrun (f:=f) (args:=l) e
   simp only [iE]
   exact Mh (fun g xs hg=>hg h (fun _ _=>rfl) _ hQ) this
  all_goals exact (hc (fun f l hh=>dZ.noConfusion hh)).elim
theorem Mi (hrun:fK P run) {nm:Nat} {o:av} {t:List (Nat×AV)} {h:List (Nat×Ob)} {r:Rec} (e:sQ run nm o t h=some r) (k:Rec->Prop) (hk:k r):lN P nm o t h k:=by
 by_cases hc:∀ f l,o.op≠.call f l
 ·exact WI hrun (Mf hc e) k hk
 ·obtain ⟨dst,op,guard,af⟩:=o
  cases op
  case call f l=>
   have:=Mg (P:=P) hrun (f:=f) (args:=l) e
   simp only [lN]
   exact Mh (fun g xs hg=>⟨r,hg,hk⟩) this
  all_goals exact (hc (fun f l hh=>dZ.noConfusion hh)).elim
def Ar (t:List (Nat×AV)) (h:List (Nat×Ob)) (op:dZ):List Nat:=
 (match op with
  | .store _ _ y=>Eo (ev t y)
  | .jm _ _ _ _ ps=>ps.flatMap fun (p:Nat×Operand)=>Eo (ev t p.2)
  | .jy _ _ x=>Eo (ev t x)
  |_=>[]).filter fun b=>match get h b with
   |some (.row _ _ _)=>true
   |_=>false
where
 Eo:Option AV->List Nat
  |some x=>deep x
  |none=>[]
noncomputable def Au (run:RunT) (nm:Nat) (o:av) (t:List (Nat×AV)) (h:List (Nat×Ob)):Option (List (Nat×AV)×List (Nat×Ob)):=
 match sQ run nm o t h with
 |some r=>some (aV t o.dst r.val,r.upd++h)
 |none=>bif (Ar t h o.op).isEmpty then none else match iX nm t h o.op with
  |some _=>none
  |none=>match xB (Ar t h o.op) t h with
   |some (t1,h1)=>match iX nm t1 h1 o.op with
    |some e=>bif preB t1 h1 o.op then some (aV t1 o.dst e.val,e.upd++h1) else none
    |none=>none
   |none=>none
theorem Mj (hrun:fK P run) {nm:Nat} {o:av} {t t':List (Nat×AV)} {h h':List (Nat×Ob)} (e:Au run nm o t h=some (t',h')) (Q:List (Nat×AV)->List (Nat×Ob)->Prop)
 (hQ:Q t' h'):iE P nm o t h Q:=by
 simp only [Au] at e
 split at e
 ·rename_i r hr
  cases e
  exact WS hrun hr Q hQ
 ·cases hz:(Ar t h o.op).isEmpty with
  |true=>rw [hz] at e;cases e
  |false=>
   rw [hz] at e
   simp only [cond_false] at e
   split at e
   ·cases e
   ·rename_i hn
    split at e
    ·rename_i t1 h1 hf
     split at e
     ·rename_i e1 he
      cases hp:preB t1 h1 o.op with
      |false=>rw [hp] at e;cases e
      |true=>
       rw [hp] at e
       simp only [cond_true,Option.some.injEq,Prod.mk.injEq] at e
       obtain ⟨rfl,rfl⟩:=e
       have key:qd nm t h o.op (ax nm t h o.op) fun t h e=>Q (aV t o.dst e.val) (e.upd++h):=by
        have h3:ax nm t1 h1 o.op=some e1:=by rw [Ab];exact he
        have h2:=DX h3 hp
        rw [Ab nm t h o.op,hn]
        refine ⟨t1,h1,Li hf,?_⟩
        rw [h3]
        exact ⟨h2,hQ⟩
       cases hq:l6 o.op with
       |true=>rw [LK hq];exact key
       |false=>
        obtain ⟨dst,op,guard,af⟩:=o
        cases op<;>first|(simp [Ar] at hz;done)|(simp [l6] at hq;done)
     ·cases e
    ·cases e
noncomputable def qI (run:RunT):Nat->List av->List (Nat×AV)->List (Nat×Ob)->Option (List (Nat×AV)×List (Nat×Ob))
 |_,[],t,h=>some (t,h)
 |nm,o::l,t,h=>match o.guard with
  |none=>match Au run nm o t h with
   |some (t',h')=>qI run (nm+8) l t' h'
   |none=>none
  |some (g,want)=>match get t g with
   |some (.v (.bool b))=>bif b==want then (match Au run nm o t h with
    |some (t',h')=>qI run (nm+8) l t' h'
    |none=>none) else qI run (nm+8) l (aV t o.dst (.v undef)) h
   |some (.v (.tuple _))=>qI run (nm+8) l (aV t o.dst (.v undef)) h
   |_=>none
theorem xR (hrun:fK P run):∀ (l:List av) (nm:Nat) (t:List (Nat×AV)) (h:List (Nat×Ob)) (t':List (Nat×AV)) (h':List (Nat×Ob)),qI run nm l t h=some (t',h')->
 ∀ Q:List (Nat×AV)->List (Nat×Ob)->Prop,Q t' h'->wpOps P nm l t h Q
 |[],nm,t,h,t',h',e,Q,hQ=>by simp only [qI,Option.some.injEq,Prod.mk.injEq] at e;obtain ⟨rfl,rfl⟩:=e;simpa only [wpOps] using hQ
 |o::l,nm,t,h,t',h',e,Q,hQ=>by
  simp only [qI] at e
  simp only [wpOps]
  split at e
  ·rename_i hg
   split at e
   ·rename_i t1 h1 hr
    simp only [hg]
    exact Mj hrun hr _ (xR hrun l _ _ _ _ _ e Q hQ)
   ·cases e
  ·rename_i g want hg
   simp only [hg]
   split at e
   ·rename_i b hb
    simp only [hb,lM]
    cases hw:(b==want) with
    |true=>
     rw [hw] at e
     simp only [cond_true] at e
     split at e
     ·rename_i t1 h1 hr
      have hh:=Mj hrun hr (fun t h=>wpOps P (nm+8) l t h Q) (xR hrun l _ _ _ _ _ e Q hQ)
      cases b<;>cases want<;>simp_all [Split]
     ·cases e
    |false=>
     rw [hw] at e
     simp only [cond_false] at e
     have hh:=xR hrun l _ _ _ _ _ e Q hQ
     cases b<;>cases want<;>simp_all [Split]
   ·rename_i vs hb
    simp only [hb]
    exact xR hrun l _ _ _ _ _ e Q hQ
   ·cases e
noncomputable def qJ (run:RunT):Nat->List av->List aW->List (Nat×AV)->List (Nat×Ob)->Option (List aW×List (Nat×AV)×List (Nat×Ob))
 |_,[],acc,t,h=>some (acc,t,h)
 |nm,o::l,acc,t,h=>match o.guard with
  |none=>match sQ run nm o t h with
   |some r=>qJ run (nm+8) l ((r.rd,r.upd.map Prod.fst)::acc) (aV t o.dst r.val) (r.upd++h)
   |none=>none
  |some (g,want)=>match get t g with
   |some (.v (.bool b))=>bif b==want then (match sQ run nm o t h with
    |some r=>qJ run (nm+8) l ((r.rd,r.upd.map Prod.fst)::acc) (aV t o.dst r.val) (r.upd++h)
    |none=>none) else qJ run (nm+8) l (([],[])::acc) (aV t o.dst (.v undef)) h
   |some (.v (.tuple _))=>qJ run (nm+8) l (([],[])::acc) (aV t o.dst (.v undef)) h
   |_=>none
theorem xS (hrun:fK P run):∀ (l:List av) (nm:Nat) (acc:List aW) (t:List (Nat×AV)) (h:List (Nat×Ob)) (acc':List aW) (t':List (Nat×AV)) (h':List (Nat×Ob)),qJ run nm l acc t h=some (acc',t',h')->
 ∀ Q:List aW->List (Nat×AV)->List (Nat×Ob)->Prop,Q acc' t' h'->jd P nm l acc t h Q
 |[],nm,acc,t,h,acc',t',h',e,Q,hQ=>by simp only [qJ,Option.some.injEq,Prod.mk.injEq] at e;obtain ⟨rfl,rfl,rfl⟩:=e;simpa only [jd] using hQ
 |o::l,nm,acc,t,h,acc',t',h',e,Q,hQ=>by
  simp only [qJ] at e
  simp only [jd]
  split at e
  ·rename_i hg
   split at e
   ·rename_i r hr
    simp only [hg]
    exact Mi hrun hr _ (xS hrun l _ _ _ _ _ _ _ e Q hQ)
   ·cases e
  ·rename_i g want hg
   simp only [hg]
   split at e
   ·rename_i b hb
    simp only [hb,lM]
    cases hw:(b==want) with
    |true=>
     rw [hw] at e
     simp only [cond_true] at e
     split at e
     ·rename_i r hr
      have hh:=Mi hrun hr (fun r=>jd P (nm+8) l ((r.rd,r.upd.map Prod.fst)::acc) (aV t o.dst r.val) (r.upd++h) Q) (xS hrun l _ _ _ _ _ _ _ e Q hQ)
      cases b<;>cases want<;>simp_all [Split]
     ·cases e
    |false=>
     rw [hw] at e
     simp only [cond_false] at e
     have hh:=xS hrun l _ _ _ _ _ _ _ e Q hQ
     cases b<;>cases want<;>simp_all [Split]
   ·rename_i vs hb
    simp only [hb]
    exact xS hrun l _ _ _ _ _ _ _ e Q hQ
   ·cases e
end
structure nT where
 sc:cK
 res:List gY
 nt:Nat
noncomputable def Mk (t:List (Nat×AV)):Nat:= @List.rec (Nat×AV) (fun _=>Nat) 0 (fun _ _ ih=>Nat.add ih 1) t
noncomputable def sw (t:List (Nat×AV)) (h:List (Nat×Ob)):Option (List (Nat×AV)×List (Nat×Ob)):=cond (Nat.blt 90 (Mk t)) (xB [] t h) none
theorem WT {n:Nat} {t t':List (Nat×AV)} {h h':List (Nat×Ob)} (e:sw t h=some (t',h')):Wk ⟨n,t,h⟩ ⟨n,t',h'⟩:=by
 unfold sw at e
 cases hb:Nat.blt 90 (Mk t) with
 |true=>rw [hb] at e;exact Wt e
 |false=>rw [hb] at e;cases e
noncomputable def vC (hk:RunT) (code:FuncId->Option nT) (ex:cK->St->Option (Exit×St)):RunT:=fun f xs bs gs=>
 match hk f xs bs gs with
 |some r=>some r
 |none=>match code f with
 |some F=>bif decide (xs.length<=F.nt) then match ex F.sc ⟨8,lT 0 xs,outs bs gs⟩ with
  |some (.normal,s)=>match gZ s.t s.h F.res with
   |some vs=>some (vs,s.h)
   |none=>none
  |some (.ret,s)=>match gZ s.t s.h F.res with
   |some vs=>some (vs,s.h)
   |none=>none
  |_=>none else none
 |none=>none
noncomputable def exec (hk:RunT) (code:FuncId->Option nT):Nat->cK->St->Option (Exit×St)
 |0,_,_=>none
 |k+1,sc,s=>match sc with
  | .skip=>some (.normal,s)
  | .region ops true=>match qJ (vC hk code (exec hk code k)) s.n ops [] s.t s.h with
   |some (acc,t,h)=>bif nG ops acc.reverse then some (.normal,⟨s.n+8*ops.length,t,h⟩) else none
   |none=>none
  | .region ops false=>match qI (vC hk code (exec hk code k)) s.n ops s.t s.h with
   |some (t,h)=>some (.normal,⟨s.n+8*ops.length,t,h⟩)
   |none=>none
  | .seq a b=>match exec hk code k a s with
   |some (.normal,s')=>exec hk code k b s'
   |r=>r
  | .cond c x y=>match ev s.t c with
   |some (.v (.bool true))=>exec hk code k x s
   |some (.v (.bool false))=>exec hk code k y s
   |_=>none
  | .block id c=>match exec hk code k c s with
   |some (.exit i,s')=>some ((bif i==id then .normal else .exit i),s')
   |r=>r
  | .loop c=>match exec hk code k c s with
   |some (.normal,s')=>match sw s'.t s'.h with
    |some (t,h)=>exec hk code k (.loop c) ⟨s'.n,t,h⟩
    |none=>exec hk code k (.loop c) s'
   |r=>r
  | .exit id=>some (.exit id,s)
  | .ret=>some (.ret,s)
section
variable {P:Program} {hk:RunT} {code:FuncId->Option nT}
def Ep (P:Program) (ex:cK->St->Option (Exit×St)):Prop:=∀ sc s e s',ex sc s=some (e,s')->∀ Q:Exit->St->Prop,Q e s'->fu P sc Q s
def xU (P:Program) (code:FuncId->Option nT):Prop:=∀ f F,code f=some F->aF P f F.sc F.res F.nt
theorem Av (hh:fK P hk) (hc:xU P code) {ex:cK->St->Option (Exit×St)} (hx:Ep P ex):fK P (vC hk code ex):=by
 intro f xs bs gs vs h e
 simp only [vC] at e
 cases hq:hk f xs bs gs with
 |some r=>rw [hq] at e;cases e;exact hh _ _ _ _ _ _ hq
 |none=>
 rw [hq] at e
 simp only at e
 split at e
 ·rename_i F hf
  cases hl:decide (xs.length<=F.nt) with
  |false=>rw [hl] at e;cases e
  |true=>
   rw [hl] at e
   simp only [cond_true] at e
   split at e
   ·rename_i s hs
    split at e
    ·rename_i vs' hv
     cases e
     exact ⟨s.t,F.res,hv,fun r bs' es hF=>dW.aB (hc f F hf) (of_decide_eq_true hl) (hx _ _ _ _ hs _ hF)⟩
    ·cases e
   ·rename_i s hs
    split at e
    ·rename_i vs' hv
     cases e
     exact ⟨s.t,F.res,hv,fun r bs' es hF=>dW.aB (hc f F hf) (of_decide_eq_true hl) (hx _ _ _ _ hs _ hF)⟩
    ·cases e
   ·cases e
 ·cases e
theorem Wk.rfl' {s:St}:Wk s s:=fun C ρ U a w hr hU=>⟨ρ,U,hr,hU⟩
theorem WU:∀ (k:Nat) (c:cK) (s:St) (e:Exit) (s':St),exec hk code k (.loop c) s=some (e,s')->
 ∃ (n:Nat) (S:Nat->St),S 0=s/\(∀ i,i<n->∃ j s1,j<k/\exec hk code j c (S i)=some (.normal,s1)/\Wk s1 (S (i+1)))/\(∃ j,j<k/\exec hk code j c (S n)=some (e,s'))/\e≠.normal:=by
 intro k
 induction k with
 |zero=>intro c s e s' h;cases h
 |succ k ih=>
  intro c s e s' h
  have step:∀ s1 s2,exec hk code k c s=some (.normal,s1)->Wk s1 s2->exec hk code k (.loop c) s2=some (e,s')->∃ (n:Nat) (S:Nat->St),S 0=s/\(∀ i,i<n->∃ j s1,j<k+1/\exec hk code j c (S i)=some (.normal,s1)/\Wk s1 (S (i+1)))/\(∃ j,j<k+1/\exec hk code j c (S n)=some (e,s'))/\e≠.normal:=by
   intro s1 s2 h1 hw h
   obtain ⟨n,S,h2,h3,⟨j,hj,h4⟩,h5⟩:=ih c s2 e s' h
   refine ⟨n+1,fun i=>match i with|0=>s|i+1=>S i,rfl,fun i hi=> ?_,⟨j,by omega,h4⟩,h5⟩
   cases i with
   |zero=>exact ⟨k,s1,by omega,h1,by simp only [h2];exact hw⟩
   |succ i=>
    obtain ⟨j',s3,hj',h6,h7⟩:=h3 i (by omega)
    exact ⟨j',s3,by omega,h6,h7⟩
  simp only [exec] at h
  split at h
  ·rename_i s1 h1
   split at h
   ·rename_i t1 h2 hf
    exact step s1 _ h1 (WT (n:=s1.n) hf) h
   ·exact step s1 s1 h1 Wk.rfl' h
  ·rename_i hne
   refine ⟨0,fun _=>s,rfl,fun i hi=>absurd hi (by omega),⟨k,by omega,h⟩,?_⟩
   intro e0
   subst e0
   exact hne _ h
theorem Ml (hh:fK P hk) (hc:xU P code):∀ k,Ep P (exec hk code k):=by
 intro k
 induction k using Nat.strongRecOn with
 |_ k Er=>
 cases k with
 |zero=>intro sc s e s' h;cases h
 |succ k=>
  have ih:Ep P (exec hk code k):=Er k (by omega)
  intro sc s e s' h Q hQ
  cases sc with
  |skip=>simp only [exec,Option.some.injEq,Prod.mk.injEq] at h;obtain ⟨rfl,rfl⟩:=h;exact hQ
  |region ops draw=>
   cases draw with
   |true=>
    simp only [exec] at h
    split at h
    ·rename_i acc t h' hd
     cases ho:nG ops acc.reverse with
     |false=>rw [ho] at h;cases h
     |true=>
      rw [ho] at h
      simp only [cond_true,Option.some.injEq,Prod.mk.injEq] at h
      obtain ⟨rfl,rfl⟩:=h
      simp only [fu,if_true,zh]
      exact xS (Av hh hc ih) _ _ _ _ _ _ _ _ hd _ ⟨ho,hQ⟩
    ·cases h
   |false=>
    simp only [exec] at h
    split at h
    ·rename_i t h' hd
     simp only [Option.some.injEq,Prod.mk.injEq] at h
     obtain ⟨rfl,rfl⟩:=h
     simp only [fu,Bool.false_eq_true,if_false]
     exact xR (Av hh hc ih) _ _ _ _ _ _ hd _ hQ
    ·cases h
  |seq a b=>
   simp only [exec] at h
   simp only [fu]
   split at h
   ·rename_i s1 h1
    exact ih _ _ _ _ h1 _ (ih _ _ _ _ h _ hQ)
   ·rename_i hne
    refine ih _ _ _ _ h _ ?_
    cases e with
    |normal=>exact absurd h (hne _)
    |_=>exact hQ
  |cond c x y=>
   simp only [exec] at h
   simp only [fu]
   split at h
   ·rename_i hb;rw [hb];exact ⟨fun _=>ih _ _ _ _ h _ hQ,fun hh=>by cases hh⟩
   ·rename_i hb;rw [hb];exact ⟨fun hh=>(by cases hh),fun _=>ih _ _ _ _ h _ hQ⟩
   ·cases h
  |block id c=>
   simp only [exec] at h
   simp only [fu]
   split at h
   ·rename_i i s1 h1
    simp only [Option.some.injEq,Prod.mk.injEq] at h
    obtain ⟨rfl,rfl⟩:=h
    refine ih _ _ _ _ h1 _ ?_
    simp only [wE]
    by_cases hi:i=id
    ·subst hi
     simpa using hQ
    ·rw [if_neg hi]
     have hb:(i==id)=false:=by simp [hi]
     rw [hb] at hQ
     exact hQ
   ·rename_i hne
    refine ih _ _ _ _ h _ ?_
    cases e with
    |exit i=>exact absurd h (hne _ _)
    |_=>exact hQ
  |loop c=>
   obtain ⟨n,S,h1,h2,⟨j,hj,h3⟩,h4⟩:=WU _ _ _ _ _ h
   simp only [fu]
   refine ⟨{i:Nat // i<=n},fun i=>S i.1,fun i=>n - i.1,⟨0,Nat.zero_le _⟩,fun C ρ U a w hr hU=>⟨ρ,U,by simp only [h1];exact hr,by simp only [h1];exact hU⟩,fun i=> ?_⟩
   obtain ⟨i,hi⟩:=i
   rcases Nat.lt_or_ge i n with hlt|hge
   ·obtain ⟨j',s1,hj',h5,h6⟩:=h2 i hlt
    exact Er j' hj' _ _ _ _ h5 _ ⟨⟨i+1,hlt⟩,by simp only;omega,h6⟩
   ·have:i=n:=by omega
    subst this
    refine Er j hj _ _ _ _ h3 _ ?_
    cases e with
    |normal=>exact absurd rfl h4
    |_=>exact hQ
  |exit id=>simp only [exec,Option.some.injEq,Prod.mk.injEq] at h;obtain ⟨rfl,rfl⟩:=h;exact hQ
  |ret=>simp only [exec,Option.some.injEq,Prod.mk.injEq] at h;obtain ⟨rfl,rfl⟩:=h;exact hQ
theorem Mq {m:Nat} {vs:List AV} {h:List (Nat×Ob)} {r:AV} {bs:List (List AV)} {es:List Ob} (e:kR m [] vs h=some (r,bs,es)):es=[]:=by
 unfold kR at e
 split at e
 ·split at e
  ·split at e
   ·rename_i es' he
    have h0:es'=[]:=by simpa [sJ] using he.symm
    subst h0
    generalize (decide (m<=4)&&fw h (jH (List.range m)++oO [] 4) [] (outs _ []))=q at e
    cases q with
    |false=>cases e
    |true=>simp only [cond_true,Option.some.injEq,Prod.mk.injEq] at e;exact e.2.2.symm
   ·cases e
  ·cases e
 ·cases e
noncomputable def Es (hk:RunT) (code:FuncId->Option nT) (k:Nat) (f:FuncId) (xs:List AV):Option AV:=match vC hk code (exec hk code k) f xs [] [] with
 |some (vs,h)=>match kR 0 [] vs h with
  |some (r,_,_)=>some r
  |none=>none
 |none=>none
theorem WV (hh:fK P hk) (hc:xU P code) {k:Nat} {f:FuncId} {xs:List AV} {r:AV} (e:Es hk code k f xs=some r):Fn P f xs [] r [] []:=by
 simp only [Es] at e
 split at e
 ·rename_i vs h hr
  split at e
  ·rename_i r' b es hP
   cases e
   obtain ⟨t,res,hv,hrun⟩:=Av hh hc (Ml hh hc k) _ _ _ _ _ _ hr
   obtain ⟨hF,hl,_⟩:=xA hv hP
   have hb0:b=[]:=List.length_eq_zero_iff.1 hl
   subst hb0
   have he0:es=[]:=Mq hP
   subst he0
   exact (hrun _ _ _ hF).xC
  ·cases e
 ·cases e
end
end Go.Eng
