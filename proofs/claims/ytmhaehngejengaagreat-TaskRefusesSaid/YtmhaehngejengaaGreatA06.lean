/-
  Part of a proof: lemmas and definitions of this work.
  No condition.
-/
import Derived.Test.YtmhaehngejengaaGreatA05
set_option linter.all false
set_option maxRecDepth 100000
set_option maxHeartbeats 8000000
namespace Go.Eng
open Go
def jS (run:RunT) (nm:Nat) (o:aC) (t:List (Nat×AV)) (h:List (Nat×Ob)):Option Rec:=
 match o.op with
 | .call f args=>match ev t f with
  |some (.fn g caps)=>match kS t args with
   |some xs=>if g<1000000 then rf run nm h g (xs++caps) else if g<2000000 then rf run nm h (g - 1000000) (caps++xs) else none
   |none=>none
  |_=>none
 | .nX neg x=>match xH (ev t x) with
  |some (some b)=>some ⟨.v (.bool (if neg then !b else b)),[],[]⟩
  |_=>none
 |op=>match lm nm t h op with
  |some e=>bif preB t h op then some ⟨e.val,e.upd,dO t op⟩ else none
  |none=>none
section
variable {P:Program} {run:RunT}
theorem ahI {nm:Nat} {t:List (Nat×AV)} {h:List (Nat×Ob)} {op:iF} {r:Rec} (e:(match lm nm t h op with
 |some e=>bif preB t h op then some (⟨e.val,e.upd,dO t op⟩:Rec) else none
 |none=>none)=some r) (k:List (Nat×AV)→List (Nat×Ob)→E→Prop) (hk:∀ p,k t h ⟨p,r.val,r.upd⟩):xJ nm t h op (eff nm t h op) k:=by
 split at e
 ·rename_i e0 h0
  cases hp:preB t h op with
  |false=>rw [hp] at e;cases e
  |true=>
   rw [hp] at e
   simp only [cond_true,Option.some.injEq] at e
   subst e
   have h1:eff nm t h op=some e0:=by rw [Hy];exact h0
   have h2:=QD h1 hp
   rw [h1]
   exact ⟨h2,hk _⟩
 ·cases e
theorem ahJ {nm:Nat} {t:List (Nat×AV)} {h:List (Nat×Ob)} {op:iF} {r:Rec} (e:(match lm nm t h op with
 |some e=>bif preB t h op then some (⟨e.val,e.upd,dO t op⟩:Rec) else none
 |none=>none)=some r) (k:Rec→Prop) (hk:k r):onE (eff nm t h op) fun e=>k ⟨e.val,e.upd,dO t op⟩:=by
 split at e
 ·rename_i e0 h0
  cases hp:preB t h op with
  |false=>rw [hp] at e;cases e
  |true=>
   rw [hp] at e
   simp only [cond_true,Option.some.injEq] at e
   subst e
   have h1:eff nm t h op=some e0:=by rw [Hy];exact h0
   have h2:=QD h1 hp
   rw [h1]
   exact ⟨h2,hk⟩
 ·cases e
def rq:iF→Bool
 | .call _ _=>false
 | .nX _ _=>false
 |_=>true
theorem aad {nm:Nat} {o:aC} {t:List (Nat×AV)} {h:List (Nat×Ob)} (hp:rq o.op=true):jS run nm o t h=(match lm nm t h o.op with
 |some e=>bif preB t h o.op then some (⟨e.val,e.upd,dO t o.op⟩:Rec) else none
 |none=>none):=by
 obtain ⟨dst,op,guard,af⟩:=o
 cases op<;>first|(simp [rq] at hp;done)|rfl
theorem aae {nm:Nat} {o:aC} {t:List (Nat×AV)} {h:List (Nat×Ob)} {Q:List (Nat×AV)→List (Nat×Ob)→Prop} (hp:rq o.op=true):
 kz P nm o t h Q=xJ nm t h o.op (eff nm t h o.op) fun t h e=>Q (bU t o.dst e.val) (e.upd++h):=by
 obtain ⟨dst,op,guard,af⟩:=o
 cases op<;>first|(simp [rq] at hp;done)|rfl
theorem ahK {nm:Nat} {o:aC} {t:List (Nat×AV)} {h:List (Nat×Ob)} {k:Rec→Prop} (hp:rq o.op=true):
 qP P nm o t h k=onE (eff nm t h o.op) fun e=>k ⟨e.val,e.upd,dO t o.op⟩:=by
 obtain ⟨dst,op,guard,af⟩:=o
 cases op<;>first|(simp [rq] at hp;done)|rfl
theorem ahL (hrun:qZ P run) {nm:Nat} {o:aC} {t:List (Nat×AV)} {h:List (Nat×Ob)} {r:Rec} (e:jS run nm o t h=some r) (Q:List (Nat×AV)→List (Nat×Ob)→Prop)
 (hQ:Q (bU t o.dst r.val) (r.upd++h)):kz P nm o t h Q:=by
 cases hp:rq o.op with
 |true=>
  rw [aad hp] at e
  rw [aae hp]
  exact ahI e (fun t h e=>Q (bU t o.dst e.val) (e.upd++h)) fun _=>hQ
 |false=>
  obtain ⟨dst,op,guard,af⟩:=o
  cases op
  case call f args=>
   simp only [jS] at e
   simp only [kz]
   split at e
   ·rename_i g caps hf
    split at e
    ·rename_i xs hx
     rw [hf,hx]
     split at e
     ·rename_i hg
      simp only [kU,if_pos hg]
      exact (sV hrun e) h (fun _ _=>rfl) _ hQ
     ·rename_i hg
      split at e
      ·rename_i hg2
       simp only [kU,if_neg hg,if_pos hg2]
       exact (sV hrun e) h (fun _ _=>rfl) _ hQ
      ·cases e
    ·cases e
   ·cases e
  case nX neg x=>
   simp only [jS] at e
   simp only [kz]
   split at e
   ·rename_i b hb
    cases e
    rw [hb]
    exact hQ
   ·cases e
  all_goals simp [rq] at hp
theorem ahM (hrun:qZ P run) {nm:Nat} {o:aC} {t:List (Nat×AV)} {h:List (Nat×Ob)} {r:Rec} (e:jS run nm o t h=some r) (k:Rec→Prop) (hk:k r):qP P nm o t h k:=by
 cases hp:rq o.op with
 |true=>
  rw [aad hp] at e
  rw [ahK hp]
  exact ahJ e k hk
 |false=>
  obtain ⟨dst,op,guard,af⟩:=o
  cases op
  case call f args=>
   simp only [jS] at e
   simp only [qP]
   split at e
   ·rename_i g caps hf
    split at e
    ·rename_i xs hx
     rw [hf,hx]
     split at e
     ·rename_i hg
      simp only [kU,if_pos hg]
      exact ⟨r,sV hrun e,hk⟩
     ·rename_i hg
      split at e
      ·rename_i hg2
       simp only [kU,if_neg hg,if_pos hg2]
       exact ⟨r,sV hrun e,hk⟩
      ·cases e
    ·cases e
   ·cases e
  case nX neg x=>
   simp only [jS] at e
   simp only [qP]
   split at e
   ·rename_i b hb
    cases e
    rw [hb]
    exact hk
   ·cases e
  all_goals simp [rq] at hp
noncomputable def wE {α:Type} (l:List (Nat×α)) (k:Nat):Option α:= @List.rec (Nat×α) (fun _=>Option α) none (fun p _ ih=>cond (Nat.beq p.1 k) (some p.2) ih) l
theorem yj {α:Type}:∀ (l:List (Nat×α)) (k:Nat),wE l k=get l k
 |[],k=>rfl
 |(j,x)::l,k=>by
  show cond (Nat.beq j k) (some x) (wE l k)=if j=k then some x else get l k
  rw [yj l k]
  cases hb:Nat.beq j k with
  |true=>rw [if_pos (Nat.eq_of_beq_eq_true hb)];rfl
  |false=>rw [if_neg (Nat.ne_of_beq_eq_false hb)];rfl
abbrev ru:=RunT→Nat→List (Nat×AV)→List (Nat×Ob)→Option Rec
noncomputable def ng (x:Operand) (t:List (Nat×AV)):Option AV:=match x with
 | .tmp k=>wE t k
 |x=>ev t x
theorem wF (x:Operand) (t:List (Nat×AV)):ng x t=ev t x:=by
 cases x<;>first|rfl|(simp only [ng,ev,yj])
noncomputable def uP (x:AV):Bool:= @AV.rec (fun _=>Bool) (fun _=>Bool) (fun _=>Bool) (fun _=>true) (fun _ ih=>ih) (fun _ ih=>ih) (fun _ _ _=>true) (fun _ _ _ _=>false) (fun _ _=>false) (fun _ _ _ _=>false) (fun _ _ _=>true) (fun _=>false) (fun _ _ ih=>ih) true (fun _ _ a b=>cond a b false) true (fun _ _ _ _=>true) x
noncomputable def rC (l:List AV):Bool:= @List.rec AV (fun _=>Bool) true (fun c _ ih=>cond (uP c) ih false) l
theorem aaf (x:AV):uP x=x.pure:=by
 refine AV.rec (motive_1:=fun x=>uP x=x.pure) (motive_2:=fun xs=>(@AV.rec_1 (fun _=>Bool) (fun _=>Bool) (fun _=>Bool) (fun _=>true) (fun _ ih=>ih) (fun _ ih=>ih) (fun _ _ _=>true) (fun _ _ _ _=>false) (fun _ _=>false) (fun _ _ _ _=>false) (fun _ _ _=>true) (fun _=>false) (fun _ _ ih=>ih) true (fun _ _ a b=>cond a b false) true (fun _ _ _ _=>true) xs)=dM xs) (motive_3:=fun _=>True) ?_ ?_ ?_ ?_ ?_ ?_ ?_ ?_ ?_ ?_ ?_ ?_ ?_ ?_ x
 case refine_2=>intro cs ih;rw [AV.pure];exact ih
 case refine_3=>intro cs ih;rw [AV.pure];exact ih
 case refine_10=>intro f cs ih;rw [AV.pure];exact ih
 case refine_11=>simp only [dM]
 case refine_12=>
  intro c cs a b
  simp only [dM]
  rw [←a,←b]
  cases hb:uP c
  ·show cond (uP c) _ false=_
   rw [hb];rfl
  ·show cond (uP c) _ false=_
   rw [hb];rfl
 all_goals intros;first|trivial|(simp only [AV.pure];rfl)
theorem ER:∀ l:List AV,rC l=dM l
 |[]=>by simp only [dM];rfl
 |c::l=>by
  simp only [dM]
  show cond (uP c) (rC l) false=_
  rw [aaf,ER l]
  cases c.pure<;>rfl
noncomputable def kJ (h:List (Nat×Ob)) (b:Nat):Bool:=match wE h b with
 |some (.box _)=>false
 |_=>true
theorem zV {h:List (Nat×Ob)} {S:List (Nat×Nat)} {b:Nat} (e:kJ h b=true):pK h S b=true:=by
 simp only [kJ,yj] at e
 unfold pK
 split
 ·rename_i hh;rw [hh] at e;cases e
 ·rfl
theorem ahN {h:List (Nat×Ob)} (h0:kJ h 0=true) (h1:kJ h 1=true) (h2:kJ h 2=true) (h3:kJ h 3=true):okS h [] [] []=true:=by
 simp [okS,zV h0,zV h1,zV h2,zV h3]
theorem ahO {h:List (Nat×Ob)} {o:Ob} (h1:kJ h 1=true) (h2:kJ h 2=true) (h3:kJ h 3=true):okS h [(0,0)] [] [(0,o)]=true:=by
 have h0:pK h [(0,0)] 0=true:=by
  unfold pK
  split<;>simp [get]
 simp [okS,h0,zV h1,zV h2,zV h3]
noncomputable def tb (b:Nat) (x:AV):Option AV:=match x with
 | .ptr b' j=>cond (Nat.beq b' b) (some (.ptr 0 j)) none
 |x=>cond (uP x) (some x) none
noncomputable def QS (b:Nat) (l:List AV):Option (List AV):= @List.rec AV (fun _=>Option (List AV)) (some []) (fun c _ ih=>match tb b c with
 |some c'=>(match ih with
  |some l'=>some (c'::l')
  |none=>none)
 |none=>none) l
theorem ahP {b:Nat} {x y:AV} (e:tb b y=some x):(∃ j,y= .ptr b j∧x= .ptr 0 j)∨(x=y∧x.pure=true):=by
 have hg:∀ z:AV,cond (uP z) (some z) none=some x→x=z∧x.pure=true:=by
  intro z hz
  cases hp:uP z with
  |true=>rw [hp] at hz;cases hz;exact ⟨rfl,by rw [←aaf];exact hp⟩
  |false=>rw [hp] at hz;cases hz
 cases y
 case ptr b' j=>
  have e:cond (Nat.beq b' b) (some (AV.ptr 0 j)) none=some x:=e
  cases hb:Nat.beq b' b with
  |true=>rw [hb] at e;cases e;exact .inl ⟨j,by rw [Nat.eq_of_beq_eq_true hb],rfl⟩
  |false=>rw [hb] at e;cases e
 all_goals exact .inr (hg _ e)
theorem aag {b:Nat}:∀ (ys xs:List AV),QS b ys=some xs→jD [b] xs ys
 |[],xs,e=>by
  cases e
  simp only [jD]
 |y::ys,xs,e=>by
  have e:(match tb b y with
   |some c'=>(match QS b ys with
    |some l'=>some (c'::l')
    |none=>none)
   |none=>none)=some xs:=e
  split at e
  ·rename_i c' hc
   split at e
   ·rename_i l' hl
    cases e
    have ht:=aag ys l' hl
    rcases ahP hc with ⟨j,rfl,rfl⟩|⟨rfl,hp⟩
    ·simp only [jD]
     exact ⟨rfl,ht⟩
    ·cases c'<;>first|(simp [AV.pure] at hp;done)|(simp only [jD];first|exact ⟨⟨rfl,hp⟩,ht⟩|exact ⟨⟨trivial,hp⟩,ht⟩)
   ·cases e
  ·cases e
noncomputable def fp (l:List AV):Option Nat:= @List.rec AV (fun _=>Option Nat) none (fun c _ ih=>match c with
 | .ptr b _=>some b
 |_=>ih) l
noncomputable def ahQ (nm:Nat) (vs:List AV) (h':List (Nat×Ob)):Option Rec:=match uN 0 (uO 0 vs).eraseDups vs h' with
 |some (r,_,es)=>bif decide (es.length≤8)&&fM es.length r then some ⟨sh nm r,dP nm es,[]⟩ else none
 |none=>none
noncomputable def n4 (h:List (Nat×Ob)):Bool:=cond (kJ h 1) (cond (kJ h 2) (kJ h 3) false) false
theorem aah {h:List (Nat×Ob)} (e:n4 h=true):kJ h 1=true∧kJ h 2=true∧kJ h 3=true:=by
 unfold n4 at e
 cases h1:kJ h 1<;>rw [h1] at e<;>try cases e
 cases h2:kJ h 2<;>rw [h2] at e<;>try cases e
 exact ⟨rfl,rfl,e⟩
noncomputable def H9 (run:RunT) (nm:Nat) (h:List (Nat×Ob)) (f:FuncId) (ys:List AV):Option Rec:=
 cond (rC ys) (match run f ys [] [] with
  |some (vs,h')=>cond (and (rC vs) (and (kJ h' 0) (n4 h'))) (some ⟨ay vs,[],[]⟩) (ahQ nm vs h')
  |none=>none) (match fp ys with
  |some b=>(match QS b ys with
   |some xs=>(match wE h b with
    |some (.box cs)=>cond (rC cs) (match run f xs [cs] [] with
     |some (vs,h')=>(match wE h' 0 with
      |some (.box cs')=>cond (and (rC vs) (and (rC cs') (n4 h'))) (some ⟨ay vs,[(b,.box cs')],[b]⟩) (rf run nm h f ys)
      |_=>rf run nm h f ys)
     |none=>none) (rf run nm h f ys)
    |_=>rf run nm h f ys)
   |none=>rf run nm h f ys)
  |none=>rf run nm h f ys)
theorem ES:∀ (vs:List AV),dM vs=true→(ay vs).pure=true
 |[],h=>by simp [ay,AV.pure,dM]
 |[x],h=>by simpa [ay,dM] using h
 |x::y::l,h=>by simpa [ay,AV.pure] using h
theorem aai {P:Program} {run:RunT} (hrun:qZ P run) {nm:Nat} {h:List (Nat×Ob)} {f:FuncId} {ys:List AV} {r:Rec} (e:H9 run nm h f ys=some r):lQ P nm f ys h r:=by
 unfold H9 at e
 cases hp:rC ys with
 |true=>
  rw [hp] at e
  simp only [cond_true] at e
  rw [ER] at hp
  split at e
  ·rename_i vs h' hr
   cases hc:(and (rC vs) (and (kJ h' 0) (n4 h'))) with
   |true=>
    rw [hc] at e
    cases e
    simp only [Bool.and_eq_true] at hc
    obtain ⟨hv,h0,h1⟩:=hc
    obtain ⟨h1,h2,h3⟩:=aah h1
    rw [ER] at hv
    obtain ⟨t,res,hv',hrun'⟩:=hrun _ _ _ _ _ _ hr
    exact Fn.G8 (hrun' _ _ _ (Fin.bQ vs hv' (ahN h0 h1 h2 h3) (ES vs hv) rfl)).H7 hp (ES vs hv)
   |false=>
    rw [hc] at e
    simp only [cond_false] at e
    refine sV hrun (?_:rf run nm h f ys=some r)
    unfold rf
    rw [hp,hr]
    exact e
  ·cases e
 |false=>
  rw [hp] at e
  simp only [cond_false] at e
  split at e
  ·rename_i b hb
   split at e
   ·rename_i xs hx
    split at e
    ·rename_i cs hcs
     rw [yj] at hcs
     cases hpc:rC cs with
     |true=>
      rw [hpc] at e
      simp only [cond_true] at e
      rw [ER] at hpc
      split at e
      ·rename_i vs h' hr
       split at e
       ·rename_i cs' hcs'
        rw [yj] at hcs'
        cases hc:(and (rC vs) (and (rC cs') (n4 h'))) with
        |true=>
         rw [hc] at e
         cases e
         simp only [Bool.and_eq_true] at hc
         obtain ⟨hv,hc',h1⟩:=hc
         obtain ⟨h1,h2,h3⟩:=aah h1
         rw [ER] at hv hc'
         obtain ⟨t,res,hv',hrun'⟩:=hrun _ _ _ _ _ _ hr
         have hF:=(hrun' _ _ _ (Fin.oD vs hv' hcs' (ahO h1 h2 h3) (ES vs hv) hc' rfl rfl)).H7
         have:=hF.vY (h:=h) nm [b] [cs'] (aag ys xs hx) (by simp only [qU,and_true,hcs];exact zO cs hpc) (by simp) (by simp) rfl (G7 [cs'] (by simp only [zL,hc',Bool.and_true])) rfl (by simp) (Ce _ (ES vs hv))
         rw [Eo nm _ (ES vs hv)] at this
         exact this
        |false=>
         rw [hc] at e
         exact sV hrun e
       ·exact sV hrun e
      ·cases e
     |false=>
      rw [hpc] at e
      exact sV hrun e
    ·exact sV hrun e
   ·exact sV hrun e
  ·exact sV hrun e
noncomputable def zW:iF→ru:=fun op run nm t h=>jS run nm ⟨none,op,none,[]⟩ t h
noncomputable def wG (cs:List AV) (n:Nat):Bool:= @List.rec AV (fun _=>Nat→Bool) (fun n=>Nat.beq n 0) (fun _ _ ih n=>cond (Nat.beq n 0) false (ih (Nat.pred n))) cs n
noncomputable def Ia (cs:List AV):Nat:= @List.rec AV (fun _=>Nat) 0 (fun _ _ ih=>Nat.add ih 1) cs
noncomputable def Ib (cs:List AV) (n:Nat):List AV:= @List.rec AV (fun _=>Nat→List AV) (fun _=>[]) (fun c _ ih n=>cond (Nat.beq n 0) [] (c::ih (Nat.pred n))) cs n
noncomputable def ET (cs:List AV) (n:Nat):List AV:= @List.rec AV (fun _=>Nat→List AV) (fun _=>[]) (fun c l ih n=>cond (Nat.beq n 0) (c::l) (ih (Nat.pred n))) cs n
noncomputable def Ic (cs:List AV) (n:Nat):Option AV:= @List.rec AV (fun _=>Nat→Option AV) (fun _=>none) (fun c _ ih n=>cond (Nat.beq n 0) (some c) (ih (Nat.pred n))) cs n
noncomputable def EU (cs ds:List AV):List AV:= @List.rec AV (fun _=>List AV) ds (fun c _ ih=>c::ih) cs
theorem EW:∀ (cs:List AV) (n:Nat),wG cs n=true→cs.length=n
 |[],n,e=>(Nat.eq_of_beq_eq_true (show Nat.beq n 0=true from e)).symm
 |c::cs,n,e=>by
  have e:cond (Nat.beq n 0) false (wG cs (Nat.pred n))=true:=e
  cases n with
  |zero=>cases e
  |succ n=>rw [List.length_cons,EW cs n e]
theorem QT:∀ cs:List AV,Ia cs=cs.length
 |[]=>rfl
 |c::cs=>by show Ia cs+1=_;rw [QT cs];rfl
theorem QU:∀ (cs:List AV) (n:Nat),Ib cs n=cs.take n
 |[],n=>by rw [List.take_nil];rfl
 |c::cs,0=>rfl
 |c::cs,n+1=>by show c::Ib cs n=_;rw [QU cs n];rfl
theorem Ie:∀ (cs:List AV) (n:Nat),ET cs n=cs.drop n
 |[],n=>by rw [List.drop_nil];rfl
 |c::cs,0=>rfl
 |c::cs,n+1=>by show ET cs n=_;rw [Ie cs n];rfl
theorem QV:∀ (cs:List AV) (n:Nat),Ic cs n=cs[n]?
 |[],n=>rfl
 |c::cs,0=>rfl
 |c::cs,n+1=>by show Ic cs n=_;rw [QV cs n];rfl
theorem aaj (cs ds:List AV):EU cs ds=cs++ds:=by
 induction cs with
 |nil=>rfl
 |cons c cs ih=>show c::EU cs ds=_;rw [ih];rfl
noncomputable def Ig (l:List AV):Bool:= @List.rec AV (fun _=>Bool) true (fun c _ ih=>cond c.one ih false) l
theorem aak:∀ l:List AV,Ig l=qN l
 |[]=>rfl
 |c::l=>by
  show cond c.one (Ig l) false=(c.one&&qN l)
  rw [aak l];cases c.one<;>rfl
noncomputable def QW (x:AV):Option (List AV):=match x with
 | .agg cs=>cond (Ig cs) (some cs) none
 |x=>cond x.one (some [x]) none
theorem aal (x:AV):QW x=cellsA x:=by
 have hg:∀ y:AV,cond y.one (some [y]) none=if y.one=true then some [y] else none:=fun y=>by cases y.one<;>rfl
 cases x
 case agg cs=>
  show cond (Ig cs) (some cs) none=if qN cs=true then some cs else none
  rw [aak];cases qN cs<;>rfl
 all_goals first|rfl|exact hg (.v _)|exact hg (.aF _)|exact hg (.sl _ _)|exact hg (.own _ _ _ _)|exact hg (.ptr _ _)|exact hg (.rp _ _ _ _)|exact hg (.dU _ _)|exact hg (.mp _)|exact hg (.fn _ _)
noncomputable def QX (cs:List AV) (j:Nat) (ys:List AV) (sz:Nat):List AV:=cond (Nat.beq j 0) (cond (wG cs sz) ys (EU ys (ET cs sz))) (EU (Ib cs j) (EU ys (ET cs (Nat.add j sz))))
theorem ahR {cs:List AV} {j:Nat} {ys:List AV} {sz:Nat} (e:wG ys sz=true):QX cs j ys sz=splice cs j ys:=by
 have hl:=EW ys sz e
 subst hl
 unfold QX splice
 cases hj:Nat.beq j 0 with
 |true=>
  have:=Nat.eq_of_beq_eq_true hj;subst this
  cases hc:wG cs ys.length with
  |true=>
   have:=EW _ _ hc
   simp [List.drop_eq_nil_of_le,this]
  |false=>simp [aaj,Ie]
 |false=>simp [aaj,Ie,QU]
noncomputable def QY (f:Operand) (args:List Operand):ru:=fun run nm t h=>match ng f t with
 |some (.fn g caps)=>(match kS t args with
  |some xs=>cond (Nat.blt g 1000000) (H9 run nm h g (xs++caps)) (cond (Nat.blt g 2000000) (H9 run nm h (g - 1000000) (caps++xs)) none)
  |none=>none)
 |_=>none
noncomputable def aam (op:BinOp) (k:IntKind) (a b:Int):Option Value:=match op with
 | .add=>some (.int k (k.wrap (a+b)))
 | .sub=>some (.int k (k.wrap (a - b)))
 | .eql=>some (.bool (a==b))
 | .neq=>some (.bool (a !=b))
 | .lss=>some (.bool (decide (a<b)))
 | .leq=>some (.bool (decide (a≤b)))
 | .gtr=>some (.bool (decide (b<a)))
 | .geq=>some (.bool (decide (b≤a)))
 |_=>none
noncomputable def aan (op:BinOp) (x y:Operand):ru:=fun run nm t h=>match ng x t with
 |some (.v (.int .i64 a))=>(match ng y t with
  |some (.v (.int .i64 b))=>(match aam op .i64 a b with
   |some c=>some ⟨.v c,[],[]⟩
   |none=>zW (.bin op x y) run nm t h)
  |_=>zW (.bin op x y) run nm t h)
 |_=>zW (.bin op x y) run nm t h
theorem ahS {op:BinOp} {a b:Int} {c:Value} (e:aam op .i64 a b=some c):EF op (.int .i64 a) (.int .i64 b)=some c∧lN op (.int .i64 a) (.int .i64 b)=some c:=by
 cases op<;>first|(cases e;exact ⟨rfl,rfl⟩)|cases e
noncomputable def aao (x:Operand):ru:=fun _ _ t _=>match ng x t with
 |some y=>some ⟨y,[],[]⟩
 |none=>none
noncomputable def aap (c a b:Operand):ru:=fun _ _ t _=>match ng c t with
 |some (.v (.bool true))=>(match ng a t with
  |some y=>some ⟨y,[],[]⟩
  |none=>none)
 |some (.v (.bool false))=>(match ng b t with
  |some y=>some ⟨y,[],[]⟩
  |none=>none)
 |_=>none
noncomputable def ahT (zs:List Value):ru:=fun _ nm _ _=>some ⟨.ptr nm 0,[(nm,.box (zs.map .v))],[]⟩
noncomputable def aaq (x:Operand):ru:=fun _ nm t _=>match ng x t with
 |some y=>(match QW y with
  |some ys=>some ⟨.ptr nm 0,[(nm,.box ys)],[]⟩
  |none=>none)
 |none=>none
noncomputable def aar (ag:Bool) (sz:Nat) (x:Operand):ru:=fun run nm t h=>match ng x t with
 |some (.ptr b j)=>(match wE h b with
  |some (.box cs)=>cond ag (cond (and (Nat.beq j 0) (wG cs sz)) (some ⟨.agg cs,[],[b]⟩) (cond (Nat.ble (Nat.add j sz) (Ia cs)) (some ⟨.agg (Ib (ET cs j) sz),[],[b]⟩) none)) (match Ic cs j with
   |some c=>some ⟨c,[],[b]⟩
   |none=>none)
  |_=>none)
 |_=>zW (.load ag sz x) run nm t h
noncomputable def aas (sz:Nat) (x y:Operand):ru:=fun run nm t h=>match ng x t with
 |some (.ptr b j)=>(match ng y t with
  |some z=>(match wE h b with
   |some (.box cs)=>(match QW z with
    |some ys=>cond (and (wG ys sz) (Nat.ble (Nat.add j sz) (Ia cs))) (some ⟨.v undef,[(b,.box (QX cs j ys sz))],[b]⟩) none
    |none=>none)
   |_=>none)
  |none=>none)
 |_=>zW (.store sz x y) run nm t h
noncomputable def aat (off:Nat) (x:Operand):ru:=fun run nm t h=>match ng x t with
 |some (.ptr b j)=>(match wE h b with
  |some (.box _)=>some ⟨.ptr b (j+off),[],[b]⟩
  |_=>none)
 |_=>zW (.mD off x) run nm t h
noncomputable def aau (i:Nat) (x:Operand):ru:=fun _ _ t _=>match ng x t with
 |some (.aF cs)=>(match Ic cs i with
  |some c=>some ⟨c,[],[]⟩
  |none=>none)
 |_=>none
noncomputable def wH (op:iF):ru:=match op with
 | .nU x=>aao x
 | .pick c a b=>aap c a b
 | .alloc zs=>ahT zs
 | .box x=>aaq x
 | .load ag sz x=>aar ag sz x
 | .store sz x y=>aas sz x y
 | .mD off x=>aat off x
 | .ext i x=>aau i x
 | .call f args=>QY f args
 | .bin op x y=>aan op x y
 |op=>zW op
noncomputable def zX (run:RunT) (nm:Nat) (o:aC) (t:List (Nat×AV)) (h:List (Nat×Ob)):Option Rec:=wH o.op run nm t h
theorem ahU {run:RunT} {nm:Nat} {o:aC} {t:List (Nat×AV)} {h:List (Nat×Ob)}:jS run nm o t h=jS run nm ⟨none,o.op,none,[]⟩ t h:=rfl
theorem aav {run:RunT} {nm:Nat} {o:aC} {t:List (Nat×AV)} {h:List (Nat×Ob)} {r:Rec} (hc:∀ f l,o.op≠.call f l) (e:zX run nm o t h=some r):jS run nm o t h=some r:=by
 rw [ahU]
 obtain ⟨dst,op,guard,af⟩:=o
 simp only [zX] at e
 show jS run nm ⟨none,op,none,[]⟩ t h=some r
 cases op
 case call f l=>exact (hc f l rfl).elim
 case nU x=>
  simp only [wH,aao,wF] at e
  simp only [jS,lm,eff]
  cases hx:ev t x with
  |none=>rw [hx] at e;cases e
  |some y=>rw [hx] at e;exact e
 case pick c a b=>
  simp only [wH,aap,wF] at e
  simp only [jS,lm,eff]
  split at e
  ·rename_i hc
   rw [hc]
   cases hx:ev t a with
   |none=>rw [hx] at e;cases e
   |some y=>rw [hx] at e;exact e
  ·rename_i hc
   rw [hc]
   cases hx:ev t b with
   |none=>rw [hx] at e;cases e
   |some y=>rw [hx] at e;exact e
  ·cases e
 case alloc zs=>exact e
 case box x=>
  simp only [wH,aaq,wF,aal] at e
  simp only [jS,lm,eff]
  cases hx:ev t x with
  |none=>rw [hx] at e;cases e
  |some y=>
   rw [hx] at e
   simp only at e ⊢
   cases hy:cellsA y with
   |none=>rw [hy] at e;cases e
   |some ys=>rw [hy] at e;exact e
 case ext i x=>
  simp only [wH,aau,wF,QV] at e
  simp only [jS,lm,eff]
  split at e
  ·rename_i cs hc
   rw [hc]
   simp only
   cases hx:cs[i]? with
   |none=>rw [hx] at e;cases e
   |some y=>rw [hx] at e;exact e
  ·cases e
 case mD off x=>
  simp only [wH,aat,wF,yj] at e
  split at e
  ·rename_i b j hb
   split at e
   ·rename_i cs hc
    simp only [jS,lm,eff,preB,dO,hb,hc]
    exact e
   ·cases e
  ·exact e
 case bin op x y=>
  simp only [wH,aan,wF] at e
  split at e
  ·rename_i a ha
   split at e
   ·rename_i b hb
    split at e
    ·rename_i c hc
     obtain ⟨h1,h2⟩:=ahS hc
     simp only [jS,lm,preB,dO,ha,hb,h1,h2]
     exact e
    ·exact e
   ·exact e
  ·exact e
 case load ag sz x=>
  simp only [wH,aar,wF,yj,QV,QU,Ie,QT] at e
  split at e
  ·rename_i b j hb
   split at e
   ·rename_i cs hc
    simp only [jS,lm,eff,preB,dO,hb,hc]
    cases ag with
    |true=>
     simp only [cond_true] at e
     cases hj:(and (Nat.beq j 0) (wG cs sz)) with
     |true=>
      rw [hj] at e
      rw [Bool.and_eq_true] at hj
      have h1:=Nat.eq_of_beq_eq_true hj.1
      have h2:=EW _ _ hj.2
      subst h1
      rw [if_pos rfl,if_pos (by omega),List.drop_zero,List.take_of_length_le (by omega)]
      exact e
     |false=>
     rw [hj] at e
     simp only [cond_false] at e
     cases hl:Nat.ble (Nat.add j sz) cs.length with
     |true=>
      have hl':j+sz≤cs.length:=Nat.le_of_ble_eq_true hl
      rw [hl] at e;rw [if_pos rfl,if_pos hl'];exact e
     |false=>rw [hl] at e;cases e
    |false=>
     simp only [cond_false] at e
     rw [if_neg (by simp)]
     cases hx:cs[j]? with
     |none=>rw [hx] at e;cases e
     |some y=>rw [hx] at e;exact e
   ·cases e
  ·exact e
 case store sz x y=>
  simp only [wH,aas,wF,yj,aal,QT] at e
  split at e
  ·rename_i b j hb
   split at e
   ·rename_i z hz
    split at e
    ·rename_i cs hc
     split at e
     ·rename_i ys hy
      cases hl:(and (wG ys sz) (Nat.ble (Nat.add j sz) cs.length)) with
      |false=>rw [hl] at e;cases e
      |true=>
       rw [hl] at e
       rw [Bool.and_eq_true] at hl
       have h1:=EW _ _ hl.1
       have h2:j+sz≤cs.length:=Nat.le_of_ble_eq_true hl.2
       rw [ahR hl.1] at e
       simp only [jS,lm,eff,preB,dO,hb,hz,hc,hy,if_pos (And.intro h1 h2)]
       exact e
     ·cases e
    ·cases e
   ·cases e
  ·exact e
 all_goals exact e
theorem aaw (hrun:qZ P run) {f:Operand} {args:List Operand} {nm:Nat} {t:List (Nat×AV)} {h:List (Nat×Ob)} {r:Rec} (e:QY f args run nm t h=some r):
 kU (ev t f) (kS t args) fun g xs=>lQ P nm g xs h r:=by
 simp only [QY,wF] at e
 split at e
 ·rename_i g caps hf
  split at e
  ·rename_i xs hx
   rw [hf,hx]
   cases hg:Nat.blt g 1000000 with
   |true=>
    rw [hg] at e
    have hg':g<1000000:=Nat.le_of_ble_eq_true hg
    simp only [kU]
    rw [if_pos hg']
    exact aai hrun e
   |false=>
    rw [hg] at e
    have hn:¬ g<1000000:=fun hh=>by rw [show Nat.blt g 1000000=true from Nat.ble_eq_true_of_le hh] at hg;cases hg
    cases hg2:Nat.blt g 2000000 with
    |true=>
     rw [hg2] at e
     have hg':g<2000000:=Nat.le_of_ble_eq_true hg2
     simp only [kU]
     rw [if_neg hn,if_pos hg']
     exact aai hrun e
    |false=>rw [hg2] at e;cases e
  ·cases e
 ·cases e
theorem aax {f:Option AV} {l:Option (List AV)} {p q:FuncId→List AV→Prop} (h:∀ g xs,p g xs→q g xs) (e:kU f l p):kU f l q:=by
 revert e
 unfold kU
 split
 ·rename_i g caps xs
  intro e
  by_cases h1:g<1000000
  ·rw [if_pos h1] at e ⊢;exact h _ _ e
  ·rw [if_neg h1] at e ⊢
   by_cases h2:g<2000000
   ·rw [if_pos h2] at e ⊢;exact h _ _ e
   ·rw [if_neg h2] at e;exact e.elim
 ·exact id
theorem ahV (hrun:qZ P run) {nm:Nat} {o:aC} {t:List (Nat×AV)} {h:List (Nat×Ob)} {r:Rec} (e:zX run nm o t h=some r) (Q:List (Nat×AV)→List (Nat×Ob)→Prop)
 (hQ:Q (bU t o.dst r.val) (r.upd++h)):kz P nm o t h Q:=by
 by_cases hc:∀ f l,o.op≠.call f l
 ·exact ahL hrun (aav hc e) Q hQ
 ·obtain ⟨dst,op,guard,af⟩:=o
  cases op
  case call f l=>
   have:=aaw (P:=P) hrun (f:=f) (args:=l) e
   simp only [kz]
   exact aax (fun g xs hg=>hg h (fun _ _=>rfl) _ hQ) this
  all_goals exact (hc (fun f l hh=>iF.noConfusion hh)).elim
theorem aay (hrun:qZ P run) {nm:Nat} {o:aC} {t:List (Nat×AV)} {h:List (Nat×Ob)} {r:Rec} (e:zX run nm o t h=some r) (k:Rec→Prop) (hk:k r):qP P nm o t h k:=by
 by_cases hc:∀ f l,o.op≠.call f l
 ·exact ahM hrun (aav hc e) k hk
 ·obtain ⟨dst,op,guard,af⟩:=o
  cases op
  case call f l=>
   have:=aaw (P:=P) hrun (f:=f) (args:=l) e
   simp only [qP]
   exact aax (fun g xs hg=>⟨r,hg,hk⟩) this
  all_goals exact (hc (fun f l hh=>iF.noConfusion hh)).elim
def Ih (t:List (Nat×AV)) (h:List (Nat×Ob)) (op:iF):List Nat:=
 (match op with
  | .store _ _ y=>QZ (ev t y)
  | .mV _ _ _ _ ps=>ps.flatMap fun (p:Nat×Operand)=>QZ (ev t p.2)
  | .mW _ _ x=>QZ (ev t x)
  |_=>[]).filter fun b=>match get h b with
   |some (.row _ _ _)=>true
   |_=>false
where
 QZ:Option AV→List Nat
  |some x=>deep x
  |none=>[]
noncomputable def Ii (run:RunT) (nm:Nat) (o:aC) (t:List (Nat×AV)) (h:List (Nat×Ob)):Option (List (Nat×AV)×List (Nat×Ob)):=
 match zX run nm o t h with
 |some r=>some (bU t o.dst r.val,r.upd++h)
 |none=>bif (Ih t h o.op).isEmpty then none else match lm nm t h o.op with
  |some _=>none
  |none=>match EK (Ih t h o.op) t h with
   |some (t1,h1)=>match lm nm t1 h1 o.op with
    |some e=>bif preB t1 h1 o.op then some (bU t1 o.dst e.val,e.upd++h1) else none
    |none=>none
   |none=>none
theorem aaz (hrun:qZ P run) {nm:Nat} {o:aC} {t t':List (Nat×AV)} {h h':List (Nat×Ob)} (e:Ii run nm o t h=some (t',h')) (Q:List (Nat×AV)→List (Nat×Ob)→Prop)
 (hQ:Q t' h'):kz P nm o t h Q:=by
 simp only [Ii] at e
 split at e
 ·rename_i r hr
  cases e
  exact ahV hrun hr Q hQ
 ·cases hz:(Ih t h o.op).isEmpty with
  |true=>rw [hz] at e;cases e
  |false=>
   rw [hz] at e
   simp only [cond_false] at e
   split at e
   ·cases e
   ·rename_i hn
    split at e
    ·rename_i t1 h1 hf
     split at e
     ·rename_i e1 he
      cases hp:preB t1 h1 o.op with
      |false=>rw [hp] at e;cases e
      |true=>
       rw [hp] at e
       simp only [cond_true,Option.some.injEq,Prod.mk.injEq] at e
       obtain ⟨rfl,rfl⟩:=e
       have key:xJ nm t h o.op (eff nm t h o.op) fun t h e=>Q (bU t o.dst e.val) (e.upd++h):=by
        have h3:eff nm t1 h1 o.op=some e1:=by rw [Hy];exact he
        have h2:=QD h3 hp
        rw [Hy nm t h o.op,hn]
        refine ⟨t1,h1,ZQ hf,?_⟩
        rw [h3]
        exact ⟨h2,hQ⟩
       cases hq:rq o.op with
       |true=>rw [aae hq];exact key
       |false=>
        obtain ⟨dst,op,guard,af⟩:=o
        cases op<;>first|(simp [Ih] at hz;done)|(simp [rq] at hq;done)
     ·cases e
    ·cases e
noncomputable def yt (run:RunT):Nat→List aC→List (Nat×AV)→List (Nat×Ob)→Option (List (Nat×AV)×List (Nat×Ob))
 |_,[],t,h=>some (t,h)
 |nm,o::l,t,h=>match o.guard with
  |none=>match Ii run nm o t h with
   |some (t',h')=>yt run (nm+8) l t' h'
   |none=>none
  |some (g,want)=>match get t g with
   |some (.v (.bool b))=>bif b==want then (match Ii run nm o t h with
    |some (t',h')=>yt run (nm+8) l t' h'
    |none=>none) else yt run (nm+8) l (bU t o.dst (.v undef)) h
   |some (.v (.tuple _))=>yt run (nm+8) l (bU t o.dst (.v undef)) h
   |_=>none
theorem EX (hrun:qZ P run):∀ (l:List aC) (nm:Nat) (t:List (Nat×AV)) (h:List (Nat×Ob)) (t':List (Nat×AV)) (h':List (Nat×Ob)),yt run nm l t h=some (t',h')→
 ∀ Q:List (Nat×AV)→List (Nat×Ob)→Prop,Q t' h'→wpOps P nm l t h Q
 |[],nm,t,h,t',h',e,Q,hQ=>by simp only [yt,Option.some.injEq,Prod.mk.injEq] at e;obtain ⟨rfl,rfl⟩:=e;simpa only [wpOps] using hQ
 |o::l,nm,t,h,t',h',e,Q,hQ=>by
  simp only [yt] at e
  simp only [wpOps]
  split at e
  ·rename_i hg
   split at e
   ·rename_i t1 h1 hr
    simp only [hg]
    exact aaz hrun hr _ (EX hrun l _ _ _ _ _ e Q hQ)
   ·cases e
  ·rename_i g want hg
   simp only [hg]
   split at e
   ·rename_i b hb
    simp only [hb,qO]
    cases hw:(b==want) with
    |true=>
     rw [hw] at e
     simp only [cond_true] at e
     split at e
     ·rename_i t1 h1 hr
      have hh:=aaz hrun hr (fun t h=>wpOps P (nm+8) l t h Q) (EX hrun l _ _ _ _ _ e Q hQ)
      cases b<;>cases want<;>simp_all [Split]
     ·cases e
    |false=>
     rw [hw] at e
     simp only [cond_false] at e
     have hh:=EX hrun l _ _ _ _ _ e Q hQ
     cases b<;>cases want<;>simp_all [Split]
   ·rename_i vs hb
    simp only [hb]
    exact EX hrun l _ _ _ _ _ e Q hQ
   ·cases e
noncomputable def yu (run:RunT):Nat→List aC→List bW→List (Nat×AV)→List (Nat×Ob)→Option (List bW×List (Nat×AV)×List (Nat×Ob))
 |_,[],acc,t,h=>some (acc,t,h)
 |nm,o::l,acc,t,h=>match o.guard with
  |none=>match zX run nm o t h with
   |some r=>yu run (nm+8) l ((r.rd,r.upd.map Prod.fst)::acc) (bU t o.dst r.val) (r.upd++h)
   |none=>none
  |some (g,want)=>match get t g with
   |some (.v (.bool b))=>bif b==want then (match zX run nm o t h with
    |some r=>yu run (nm+8) l ((r.rd,r.upd.map Prod.fst)::acc) (bU t o.dst r.val) (r.upd++h)
    |none=>none) else yu run (nm+8) l (([],[])::acc) (bU t o.dst (.v undef)) h
   |some (.v (.tuple _))=>yu run (nm+8) l (([],[])::acc) (bU t o.dst (.v undef)) h
   |_=>none
theorem EY (hrun:qZ P run):∀ (l:List aC) (nm:Nat) (acc:List bW) (t:List (Nat×AV)) (h:List (Nat×Ob)) (acc':List bW) (t':List (Nat×AV)) (h':List (Nat×Ob)),yu run nm l acc t h=some (acc',t',h')→
 ∀ Q:List bW→List (Nat×AV)→List (Nat×Ob)→Prop,Q acc' t' h'→lT P nm l acc t h Q
 |[],nm,acc,t,h,acc',t',h',e,Q,hQ=>by simp only [yu,Option.some.injEq,Prod.mk.injEq] at e;obtain ⟨rfl,rfl,rfl⟩:=e;simpa only [lT] using hQ
 |o::l,nm,acc,t,h,acc',t',h',e,Q,hQ=>by
  simp only [yu] at e
  simp only [lT]
  split at e
  ·rename_i hg
   split at e
   ·rename_i r hr
    simp only [hg]
    exact aay hrun hr _ (EY hrun l _ _ _ _ _ _ _ e Q hQ)
   ·cases e
  ·rename_i g want hg
   simp only [hg]
   split at e
   ·rename_i b hb
    simp only [hb,qO]
    cases hw:(b==want) with
    |true=>
     rw [hw] at e
     simp only [cond_true] at e
     split at e
     ·rename_i r hr
      have hh:=aay hrun hr (fun r=>lT P (nm+8) l ((r.rd,r.upd.map Prod.fst)::acc) (bU t o.dst r.val) (r.upd++h) Q) (EY hrun l _ _ _ _ _ _ _ e Q hQ)
      cases b<;>cases want<;>simp_all [Split]
     ·cases e
    |false=>
     rw [hw] at e
     simp only [cond_false] at e
     have hh:=EY hrun l _ _ _ _ _ _ _ e Q hQ
     cases b<;>cases want<;>simp_all [Split]
   ·rename_i vs hb
    simp only [hb]
    exact EY hrun l _ _ _ _ _ _ _ e Q hQ
   ·cases e
end
structure zY where
 sc:fZ
 res:List kW
 nt:Nat
noncomputable def aaA (t:List (Nat×AV)):Nat:= @List.rec (Nat×AV) (fun _=>Nat) 0 (fun _ _ ih=>Nat.add ih 1) t
noncomputable def sw (t:List (Nat×AV)) (h:List (Nat×Ob)):Option (List (Nat×AV)×List (Nat×Ob)):=cond (Nat.blt 90 (aaA t)) (EK [] t h) none
theorem ahW {n:Nat} {t t':List (Nat×AV)} {h h':List (Nat×Ob)} (e:sw t h=some (t',h')):Wk ⟨n,t,h⟩ ⟨n,t',h'⟩:=by
 unfold sw at e
 cases hb:Nat.blt 90 (aaA t) with
 |true=>rw [hb] at e;exact ahA e
 |false=>rw [hb] at e;cases e
noncomputable def EZ (code:FuncId→Option zY) (ex:fZ→St→Option (Exit×St)):RunT:=fun f xs bs gs=>
 match code f with
 |some F=>bif decide (xs.length≤F.nt) then match ex F.sc ⟨8,qR 0 xs,outs bs gs⟩ with
  |some (.normal,s)=>match kX s.t s.h F.res with
   |some vs=>some (vs,s.h)
   |none=>none
  |some (.ret,s)=>match kX s.t s.h F.res with
   |some vs=>some (vs,s.h)
   |none=>none
  |_=>none else none
 |none=>none
noncomputable def exec (code:FuncId→Option zY):Nat→fZ→St→Option (Exit×St)
 |0,_,_=>none
 |k+1,sc,s=>match sc with
  | .skip=>some (.normal,s)
  | .region ops true=>match yu (EZ code (exec code k)) s.n ops [] s.t s.h with
   |some (acc,t,h)=>bif uz ops acc.reverse then some (.normal,⟨s.n+8*ops.length,t,h⟩) else none
   |none=>none
  | .region ops false=>match yt (EZ code (exec code k)) s.n ops s.t s.h with
   |some (t,h)=>some (.normal,⟨s.n+8*ops.length,t,h⟩)
   |none=>none
  | .seq a b=>match exec code k a s with
   |some (.normal,s')=>exec code k b s'
   |r=>r
  | .cond c x y=>match ev s.t c with
   |some (.v (.bool true))=>exec code k x s
   |some (.v (.bool false))=>exec code k y s
   |_=>none
  | .block id c=>match exec code k c s with
   |some (.exit i,s')=>some ((bif i==id then .normal else .exit i),s')
   |r=>r
  | .loop c=>match exec code k c s with
   |some (.normal,s')=>match sw s'.t s'.h with
    |some (t,h)=>exec code k (.loop c) ⟨s'.n,t,h⟩
    |none=>exec code k (.loop c) s'
   |r=>r
  | .exit id=>some (.exit id,s)
  | .ret=>some (.ret,s)
section
variable {P:Program} {code:FuncId→Option zY}
def Q5 (P:Program) (ex:fZ→St→Option (Exit×St)):Prop:=∀ sc s e s',ex sc s=some (e,s')→∀ Q:Exit→St→Prop,Q e s'→iZ P sc Q s
def Ij (P:Program) (code:FuncId→Option zY):Prop:=∀ f F,code f=some F→aA P f F.sc F.res F.nt
theorem Q7 (hc:Ij P code) {ex:fZ→St→Option (Exit×St)} (hx:Q5 P ex):qZ P (EZ code ex):=by
 intro f xs bs gs vs h e
 simp only [EZ] at e
 split at e
 ·rename_i F hf
  cases hl:decide (xs.length≤F.nt) with
  |false=>rw [hl] at e;cases e
  |true=>
   rw [hl] at e
   simp only [cond_true] at e
   split at e
   ·rename_i s hs
    split at e
    ·rename_i vs' hv
     cases e
     exact ⟨s.t,F.res,hv,fun r bs' es hF=>lW.aN (hc f F hf) (of_decide_eq_true hl) (hx _ _ _ _ hs _ hF)⟩
    ·cases e
   ·rename_i s hs
    split at e
    ·rename_i vs' hv
     cases e
     exact ⟨s.t,F.res,hv,fun r bs' es hF=>lW.aN (hc f F hf) (of_decide_eq_true hl) (hx _ _ _ _ hs _ hF)⟩
    ·cases e
   ·cases e
 ·cases e
theorem Wk.rfl' {s:St}:Wk s s:=fun C ρ U a w hr hU=>⟨ρ,U,hr,hU⟩
theorem ahX:∀ (k:Nat) (c:fZ) (s:St) (e:Exit) (s':St),exec code k (.loop c) s=some (e,s')→
 ∃ (n:Nat) (S:Nat→St),S 0=s∧(∀ i,i<n→∃ j s1,j<k∧exec code j c (S i)=some (.normal,s1)∧Wk s1 (S (i+1)))∧(∃ j,j<k∧exec code j c (S n)=some (e,s'))∧e≠.normal:=by
 intro k
 induction k with
 |zero=>intro c s e s' h;cases h
 |succ k ih=>
  intro c s e s' h
  have step:∀ s1 s2,exec code k c s=some (.normal,s1)→Wk s1 s2→exec code k (.loop c) s2=some (e,s')→∃ (n:Nat) (S:Nat→St),S 0=s∧(∀ i,i<n→∃ j s1,j<k+1∧exec code j c (S i)=some (.normal,s1)∧Wk s1 (S (i+1)))∧(∃ j,j<k+1∧exec code j c (S n)=some (e,s'))∧e≠.normal:=by
   intro s1 s2 h1 hw h
   obtain ⟨n,S,h2,h3,⟨j,hj,h4⟩,h5⟩:=ih c s2 e s' h
   refine ⟨n+1,fun i=>match i with|0=>s|i+1=>S i,rfl,fun i hi=> ?_,⟨j,by omega,h4⟩,h5⟩
   cases i with
   |zero=>exact ⟨k,s1,by omega,h1,by simp only [h2];exact hw⟩
   |succ i=>
    obtain ⟨j',s3,hj',h6,h7⟩:=h3 i (by omega)
    exact ⟨j',s3,by omega,h6,h7⟩
  simp only [exec] at h
  split at h
  ·rename_i s1 h1
   split at h
   ·rename_i t1 h2 hf
    exact step s1 _ h1 (ahW (n:=s1.n) hf) h
   ·exact step s1 s1 h1 Wk.rfl' h
  ·rename_i hne
   refine ⟨0,fun _=>s,rfl,fun i hi=>absurd hi (by omega),⟨k,by omega,h⟩,?_⟩
   intro e0
   subst e0
   exact hne _ h
theorem ahY (hc:Ij P code):∀ k,Q5 P (exec code k):=by
 intro k
 induction k using Nat.strongRecOn with
 |_ k Q8=>
 cases k with
 |zero=>intro sc s e s' h;cases h
 |succ k=>
  have ih:Q5 P (exec code k):=Q8 k (by omega)
  intro sc s e s' h Q hQ
  cases sc with
  |skip=>simp only [exec,Option.some.injEq,Prod.mk.injEq] at h;obtain ⟨rfl,rfl⟩:=h;exact hQ
  |region ops draw=>
   cases draw with
   |true=>
    simp only [exec] at h
    split at h
    ·rename_i acc t h' hd
     cases ho:uz ops acc.reverse with
     |false=>rw [ho] at h;cases h
     |true=>
      rw [ho] at h
      simp only [cond_true,Option.some.injEq,Prod.mk.injEq] at h
      obtain ⟨rfl,rfl⟩:=h
      simp only [iZ,if_true,Gn]
      exact EY (Q7 hc ih) _ _ _ _ _ _ _ _ hd _ ⟨ho,hQ⟩
    ·cases h
   |false=>
    simp only [exec] at h
    split at h
    ·rename_i t h' hd
     simp only [Option.some.injEq,Prod.mk.injEq] at h
     obtain ⟨rfl,rfl⟩:=h
     simp only [iZ,Bool.false_eq_true,if_false]
     exact EX (Q7 hc ih) _ _ _ _ _ _ hd _ hQ
    ·cases h
  |seq a b=>
   simp only [exec] at h
   simp only [iZ]
   split at h
   ·rename_i s1 h1
    exact ih _ _ _ _ h1 _ (ih _ _ _ _ h _ hQ)
   ·rename_i hne
    refine ih _ _ _ _ h _ ?_
    cases e with
    |normal=>exact absurd h (hne _)
    |_=>exact hQ
  |cond c x y=>
   simp only [exec] at h
   simp only [iZ]
   split at h
   ·rename_i hb;rw [hb];exact ⟨fun _=>ih _ _ _ _ h _ hQ,fun hh=>by cases hh⟩
   ·rename_i hb;rw [hb];exact ⟨fun hh=>(by cases hh),fun _=>ih _ _ _ _ h _ hQ⟩
   ·cases h
  |block id c=>
   simp only [exec] at h
   simp only [iZ]
   split at h
   ·rename_i i s1 h1
    simp only [Option.some.injEq,Prod.mk.injEq] at h
    obtain ⟨rfl,rfl⟩:=h
    refine ih _ _ _ _ h1 _ ?_
    simp only [DZ]
    by_cases hi:i=id
    ·subst hi
     simpa using hQ
    ·rw [if_neg hi]
     have hb:(i==id)=false:=by simp [hi]
     rw [hb] at hQ
     exact hQ
   ·rename_i hne
    refine ih _ _ _ _ h _ ?_
    cases e with
    |exit i=>exact absurd h (hne _ _)
    |_=>exact hQ
  |loop c=>
   obtain ⟨n,S,h1,h2,⟨j,hj,h3⟩,h4⟩:=ahX _ _ _ _ _ h
   simp only [iZ]
   refine ⟨{i:Nat // i≤n},fun i=>S i.1,fun i=>n - i.1,⟨0,Nat.zero_le _⟩,fun C ρ U a w hr hU=>⟨ρ,U,by simp only [h1];exact hr,by simp only [h1];exact hU⟩,fun i=> ?_⟩
   obtain ⟨i,hi⟩:=i
   rcases Nat.lt_or_ge i n with hlt|hge
   ·obtain ⟨j',s1,hj',h5,h6⟩:=h2 i hlt
    exact Q8 j' hj' _ _ _ _ h5 _ ⟨⟨i+1,hlt⟩,by simp only;omega,h6⟩
   ·have:i=n:=by omega
    subst this
    refine Q8 j hj _ _ _ _ h3 _ ?_
    cases e with
    |normal=>exact absurd rfl h4
    |_=>exact hQ
  |exit id=>simp only [exec,Option.some.injEq,Prod.mk.injEq] at h;obtain ⟨rfl,rfl⟩:=h;exact hQ
  |ret=>simp only [exec,Option.some.injEq,Prod.mk.injEq] at h;obtain ⟨rfl,rfl⟩:=h;exact hQ
theorem ahZ {m:Nat} {vs:List AV} {h:List (Nat×Ob)} {r:AV} {bs:List (List AV)} {es:List Ob} (e:uN m [] vs h=some (r,bs,es)):es=[]:=by
 unfold uN at e
 split at e
 ·split at e
  ·split at e
   ·rename_i es' he
    have h0:es'=[]:=by simpa [zT] using he.symm
    subst h0
    generalize (decide (m≤4)&&okS h (mZ (List.range m)++wC [] 4) [] (outs _ []))=q at e
    cases q with
    |false=>cases e
    |true=>simp only [cond_true,Option.some.injEq,Prod.mk.injEq] at e;exact e.2.2.symm
   ·cases e
  ·cases e
 ·cases e
noncomputable def Q9 (code:FuncId→Option zY) (k:Nat) (f:FuncId) (xs:List AV):Option AV:=match EZ code (exec code k) f xs [] [] with
 |some (vs,h)=>match uN 0 [] vs h with
  |some (r,_,_)=>some r
  |none=>none
 |none=>none
theorem ah0 (hc:Ij P code) {k:Nat} {f:FuncId} {xs:List AV} {r:AV} (e:Q9 code k f xs=some r):Fn P f xs [] r [] []:=by
 simp only [Q9] at e
 split at e
 ·rename_i vs h hr
  split at e
  ·rename_i r' b es hP
   cases e
   obtain ⟨t,res,hv,hrun⟩:=Q7 hc (ahY hc k) _ _ _ _ _ _ hr
   obtain ⟨hF,hl,_⟩:=QH hv hP
   have hb0:b=[]:=List.length_eq_zero_iff.1 hl
   subst hb0
   have he0:es=[]:=ahZ hP
   subst he0
   exact (hrun _ _ _ hF).H7
  ·cases e
 ·cases e
end
end Go.Eng
