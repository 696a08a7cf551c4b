/-
  Part of a proof: lemmas and definitions of this work.
  No condition.
-/
import Derived.Test.YtpfhpakpcjfopaaGreatI10
import Derived.Below
import Derived.Laws.Rows
set_option linter.all false
set_option maxRecDepth 100000
set_option maxHeartbeats 8000000
namespace Go.M
open Go
open Go.Eng (SOp SOper SCode stripOper stripOps stripCode)
noncomputable section
variable [aY]
def rR:Kd->Prop
 | .heap _=>True
 |_=>False
abbrev Df (cx:Cx) (sl:List SOper) (so:SOper):OL:=⟨so.dst,so.op,so.guard,kV cx.FL so,some (ni (aliases cx.PV sl []) cx.PV so.op)⟩
abbrev kY (cx:Cx) (sl:List SOper) (so:SOper):Rs:=dF (aliases cx.PV sl []) cx.PV so
structure Dat (P:Program) (cx:Cx) (ops:Array Oper) (sl:List SOper) (nt:Nat) (kd:Nat->Kd) (sv:Nat->SV) (var:Nat->Option (Nat×X)) (S:Nat->dP) (H:Nat->Hp):Prop where
 op:∀ (j:Nat) so,sl[j]? =some so->∃ o,ops[j]? =some o/\stripOper P ops true o=some so
 okd:∀ (j:Nat) so,sl[j]? =some so->okD nt cx.PV true so=true
 ok:iL cx.PV cx.FL sl=true
 le:∀ (j:Nat) so,sl[j]? =some so->(S (j+1)).le ((S j).upd so.dst (sv j) (var j))
 hle:∀ j,j<sl.length->aM (vO (H j) (kd j)) (H j) (H (j+1))
 Db:∀ j,j<=sl.length->(H j).fl<=(H j).n
 fl:∀ j,j<=sl.length->(H j).fl=(H 0).fl
 Dh:∀ (j:Nat) so,sl[j]? =some so->xW cx (H j) (Df cx sl so) (kd j)
 svo:∀ (j:Nat) so,sl[j]? =some so->FH (Df cx sl so) (kd j) (sv j)
 s0:∀ k p off c,(S 0).T k=some (.ptr p off c)->k=p
 av:∀ (j:Nat) so o,sl[j]? =some so->ops[j]? =some o->Af P ops o (looks so) (S j) (H j) (H (j+1)) (kd j) (sv j) (var j)
 oG:∀ (j:Nat) so o,sl[j]? =some so->ops[j]? =some o->p9 so.op=true->FM P ops o (looks so) (S j) (H j) (H (j+1)) (sv j)
def rT (sl:List SOper) (i:Nat):Prop:=∃ x,sl[i]? =some x/\p9 x.op=true
section
variable {al:List (Nat×Nat)} {PV:List Nat} {so:SOper}
theorem am2:∀ k ∈ looks so,k ∈ (dF al PV so).u:=fun k hk=>by
 unfold dF
 split
 ·split
  ·exact List.mem_cons_of_mem _ hk
  ·exact hk
 ·split
  ·exact List.mem_cons_of_mem _ hk
  ·exact hk
 ·split
  ·rw [fq];split<;>exact hk
  ·exact hk
 ·split
  ·rw [fq];split<;>exact hk
  ·exact hk
 ·exact hk
theorem am3 {k:Nat} (hd:so.dst=some k):k ∈ (dF al PV so).d:=by
 unfold dF
 split
 ·split<;>simp [hd]
 ·split<;>simp [hd]
 ·rw [hd];simp only;rw [fq];split<;>simp
 ·rw [hd];simp only;rw [fq];split<;>simp
 ·simp [hd]
theorem Sk {sz:Nat} {x y:Operand} {p:Nat} (ho:so.op= .store sz x y) (hv:varOf al PV x=some p):(1000000+p) ∈ (dF al PV so).u/\(1000000+p) ∈ (dF al PV so).d:=by
 unfold dF
 rw [ho];simp only [hv]
 exact ⟨List.mem_cons_self ..,List.mem_cons_self ..⟩
theorem am4 {p:Nat} (hn:ow so.op=true) (hd:so.dst=some p) (hp:mem PV p=true):(1000000+p) ∈ (dF al PV so).d:=by
 unfold dF
 cases ho:so.op<;>rw [ho] at hn<;>first|(cases hn;done)|skip
 all_goals simp only [hd,fq,hp,if_true,List.mem_cons,true_or,or_true]
theorem am5 {ag:Bool} {sz:Nat} {x:Operand} {p:Nat} (ho:so.op= .load ag sz x) (hv:varOf al PV x=some p):(1000000+p) ∈ (dF al PV so).u:=by
 unfold dF
 rw [ho];simp only [hv]
 exact List.mem_cons_self ..
theorem am6 (op:SOp):gG op<=4:=by cases op<;>simp [gG]
end
section
variable {cx:Cx} {sl:List SOper} {so:SOper} {h:Hp} {fl:Nat}
theorem Lr (hk:xW cx h (Df cx sl so) (.heap fl)):(kY cx sl so).c≠0/\(fl=h.n\/(fl=h.fl/\vW cx.FL so (kY cx sl so)=true)):=by
 obtain ⟨h1,h2,h3,h4⟩:=hk
 have h1:gG so.op≠0:=h1
 have hc:(kY cx sl so).c=gG so.op:=by
  have hls:((∃ ag sz x,so.op= .load ag sz x)\/∃ sz x y,so.op= .store sz x y)->ni (aliases cx.PV sl []) cx.PV so.op=none:=fun hh=>h2 hh _ rfl
  show (dF (aliases cx.PV sl []) cx.PV so).c=_
  unfold dF
  split
  ·rename_i ag sz x ho
   have:=hls (.inl ⟨ag,sz,x,ho⟩)
   rw [ho] at this
   have:varOf (aliases cx.PV sl []) cx.PV x=none:=this
   rw [this,ho];rfl
  ·rename_i sz x y ho
   have:=hls (.inr ⟨sz,x,y,ho⟩)
   rw [ho] at this
   have:varOf (aliases cx.PV sl []) cx.PV x=none:=this
   rw [this,ho];rfl
  ·rename_i zs ho
   cases hd:so.dst with
   |none=>rw [ho];rfl
   |some d=>
    have:=h4 (by rw [show (Df cx sl so).op=so.op from rfl,ho];rfl) d hd
    simp only [this,fq,Bool.false_eq_true,if_false,ho];rfl
  ·rename_i x ho
   cases hd:so.dst with
   |none=>rw [ho];rfl
   |some d=>
    have:=h4 (by rw [show (Df cx sl so).op=so.op from rfl,ho];rfl) d hd
    simp only [this,fq,Bool.false_eq_true,if_false,ho];rfl
  ·rfl
 refine ⟨by rw [hc];exact h1,h3.imp id fun ⟨g1,g2,g3⟩=>⟨g1,?_⟩⟩
 have g2:3<=gG so.op:=g2
 have g3:kV cx.FL so=false:=g3
 unfold vW
 rw [hc,g3]
 have:=am6 so.op
 rcases Nat.lt_or_ge (gG so.op) 4 with g|g
 ·rw [show gG so.op=3 by omega];rfl
 ·rw [show gG so.op=4 by omega];rfl
end
def Vr (V:Vw) (n:Nat):Vw:=⟨fun b=>V.S b/\b<n,V.ρ,V.σ,V.ε⟩
theorem Vr.ext (V:Vw) (n:Nat):Ext (Vr V n) V:=⟨fun b h=>h.1,fun b _=>rfl,fun b _=>rfl,fun b _=>rfl⟩
theorem Vr.mono {V V':Vw} {n m:Nat} (h:Ext V V') (hn:n<=m):Ext (Vr V n) (Vr V' m):=⟨fun b hb=>⟨h.S b hb.1,by have:=hb.2;omega⟩,fun b hb=>h.ρ b hb.1,fun b hb=>h.σ b hb.1,fun b hb=>h.ε b hb.1⟩
theorem Vr.into {V' Vm:Vw} {n:Nat} (h:Ext V' Vm) (hn:∀ b,V'.S b->b<n):Ext V' (Vr Vm n):=⟨fun b hb=>⟨h.S b hb,hn b hb⟩,h.ρ,h.σ,h.ε⟩
theorem iE.sub {V V':Vw} (h:Ext V V') {l:List X} {es:List MapEntry} (he:iE V l es):iE V' l es:=he.mono h
section
variable {P:Program} {cx:Cx} {ops:Array Oper} {sl:List SOper} {nt:Nat} {kd:Nat->Kd} {sv:Nat->SV} {var:Nat->Option (Nat×X)} {S:Nat->dP} {H:Nat->Hp}
def uT (sl:List SOper) (sv:Nat->SV) (H:Nat->Hp) (j:Nat):Option (Nat×(SV×Nat)):=(sl[j]?).bind fun so=>so.dst.map fun d=>(d,(sv j,(H (j+1)).n))
def uC (var:Nat->Option (Nat×X)) (H:Nat->Hp) (j:Nat):Option (Nat×(X×Nat)):=(var j).map fun q=>(q.1,(q.2,(H (j+1)).n))
def t0 (S:Nat->dP) (H:Nat->Hp) (k:Nat):Option (SV×Nat):=((S 0).T k).map fun v=>(v,(H 0).n)
def c0 (S:Nat->dP) (H:Nat->Hp) (k:Nat):Option (X×Nat):=((S 0).C k).map fun v=>(v,(H 0).n)
def Bar (cx:Cx) (sl:List SOper) (kd:Nat->Kd) (j:Nat):Prop:=rR (kd j)/\∃ so,sl[j]? =some so/\vW cx.FL so (kY cx sl so)=true
theorem Ls {j k:Nat} {so:SOper} (hso:sl[j]? =some so) (h:Key (uT sl sv H) j k):so.dst=some k:=by
 obtain ⟨v,hv⟩:=h
 unfold uT at hv
 rw [hso] at hv
 simp only [Option.bind_some,Option.map_eq_some_iff] at hv
 obtain ⟨d,h1,h2⟩:=hv
 cases h2;exact h1
theorem Dat.d9 (hd:Dat P cx ops sl nt kd sv var S H) {i:Nat}:∀ {j:Nat},i<=j->j<=sl.length->(H i).n<=(H j).n
 |0,h,_=>by
  have:i=0:=by omega
  subst this;exact Nat.le_refl _
 |j+1,h,hj=>by
  by_cases e:i=j+1
  ·subst e;exact Nat.le_refl _
  ·exact Nat.le_trans (Dat.d9 hd (j:=j) (by omega) (by omega)) (hd.hle j (by omega)).n
theorem Dat.chain (hd:Dat P cx ops sl nt kd sv var S H) {i:Nat}:∀ {j:Nat},i<=j->j<=sl.length->(∀ q,i<=q->q<j->¬ Bar cx sl kd q)->∀ b,b<(H i).n->b<65536->gH (H j) b=gH (H i) b
 |0,h,_,_,b,_,_=>by
  have:i=0:=by omega
  subst this;rfl
 |j+1,h,hj,hb,b,h1,h2=>by
  by_cases e:i=j+1
  ·subst e;rfl
  ·have ih:=Dat.chain hd (j:=j) (by omega) (by omega) (fun q hq hq'=>hb q hq (by omega)) b h1 h2
   rw [<-ih]
   have hbn:b<(H j).n:=Nat.lt_of_lt_of_le h1 (hd.d9 (by omega) (by omega))
   refine (hd.hle j (by omega)).get b ?_ hbn h2
   obtain ⟨so,hso⟩:∃ so,sl[j]? =some so:=⟨_,List.getElem?_eq_getElem (show j<sl.length by omega)⟩
   have hk:=hd.Dh j so hso
   have hnb:=hb j (by omega) (Nat.lt_succ_self _)
   cases hkd:kd j with
   |pure LC=>exact hbn
   |store p=>exact hbn
   |new p=>exact hbn
   |heap fl=>
    rw [hkd] at hk
    rcases (Lr hk).2 with e|⟨_,e⟩
    ·show b<fl;omega
    ·exact absurd ⟨by rw [hkd];trivial,so,hso,e⟩ hnb
theorem Dat.Lu (hd:Dat P cx ops sl nt kd sv var S H) {k:Nat}:∀ {j:Nat},j<=sl.length->∀ {v:SV},(S j).T k=some v->∃ n,FD (uT sl sv H) (fun _=>true) (t0 S H) j k=some (v,n)
 |0,_,v,h=>⟨(H 0).n,by show t0 S H k=_;unfold t0;rw [h];rfl⟩
 |j+1,hj,v,h=>by
  obtain ⟨so,hso⟩:∃ so,sl[j]? =some so:=⟨_,List.getElem?_eq_getElem (show j<sl.length by omega)⟩
  have h1:(if so.dst=some k then some (sv j) else (S j).T k)=some v:=(hd.le j so hso).1 k v h
  by_cases e:so.dst=some k
  ·rw [if_pos e] at h1
   cases h1
   exact ⟨(H (j+1)).n,vV rfl (by unfold uT;rw [hso];simp [e])⟩
  ·rw [if_neg e] at h1
   obtain ⟨n,hn⟩:=Dat.Lu hd (j:=j) (by omega) h1
   exact ⟨n,by rw [kX (fun _ hk=>e (Ls hso hk))];exact hn⟩
theorem Dat.Ap (hd:Dat P cx ops sl nt kd sv var S H) {k:Nat}:∀ {j:Nat},j<=sl.length->∀ {v:X},(S j).C k=some v->∃ n,FD (uC var H) (fun _=>true) (c0 S H) j k=some (v,n)
 |0,_,v,h=>⟨(H 0).n,by show c0 S H k=_;unfold c0;rw [h];rfl⟩
 |j+1,hj,v,h=>by
  obtain ⟨so,hso⟩:∃ so,sl[j]? =some so:=⟨_,List.getElem?_eq_getElem (show j<sl.length by omega)⟩
  have h1:=(hd.le j so hso).2 k v h
  cases hv:var j with
  |none=>
   rw [hv] at h1
   obtain ⟨n,hn⟩:=Dat.Ap hd (j:=j) (by omega) (show (S j).C k=some v from h1)
   exact ⟨n,by rw [kX (fun _ ⟨w,hw⟩=>by unfold uC at hw;rw [hv] at hw;cases hw)];exact hn⟩
  |some q=>
   obtain ⟨q,y⟩:=q
   rw [hv] at h1
   have h1:(if q=k then some y else (S j).C k)=some v:=h1
   by_cases e:q=k
   ·subst e
    rw [if_pos rfl] at h1
    cases h1
    exact ⟨(H (j+1)).n,vV rfl (by unfold uC;rw [hv];rfl)⟩
   ·rw [if_neg e] at h1
    obtain ⟨n,hn⟩:=Dat.Ap hd (j:=j) (by omega) h1
    exact ⟨n,by rw [kX (fun _ ⟨w,hw⟩=>by unfold uC at hw;rw [hv] at hw;cases hw;exact e rfl)];exact hn⟩
theorem Dat.bT (hd:Dat P cx ops sl nt kd sv var S H) {j k n:Nat} {v:SV} (hj:j<=sl.length) (h:FD (uT sl sv H) (fun _=>true) (t0 S H) j k=some (v,n)):n<=(H j).n:=by
 rcases F5 h with h|⟨i,h1,_,h2⟩
 ·unfold t0 at h
  simp only [Option.map_eq_some_iff,Prod.mk.injEq] at h
  obtain ⟨_,_,_,rfl⟩:=h
  exact hd.d9 (Nat.zero_le _) hj
 ·unfold uT at h2
  simp only [Option.bind_eq_some_iff,Option.map_eq_some_iff,Prod.mk.injEq] at h2
  obtain ⟨_,_,_,_,_,_,rfl⟩:=h2
  exact hd.d9 (by omega) hj
theorem Dat.bC (hd:Dat P cx ops sl nt kd sv var S H) {j k n:Nat} {v:X} (hj:j<=sl.length) (h:FD (uC var H) (fun _=>true) (c0 S H) j k=some (v,n)):n<=(H j).n:=by
 rcases F5 h with h|⟨i,h1,_,h2⟩
 ·unfold c0 at h
  simp only [Option.map_eq_some_iff,Prod.mk.injEq] at h
  obtain ⟨_,_,_,rfl⟩:=h
  exact hd.d9 (Nat.zero_le _) hj
 ·unfold uC at h2
  simp only [Option.map_eq_some_iff,Prod.mk.injEq] at h2
  obtain ⟨_,_,_,_,rfl⟩:=h2
  exact hd.d9 (by omega) hj
structure Inv (cx:Cx) (sl:List SOper) (kd:Nat->Kd) (sv:Nat->SV) (var:Nat->Option (Nat×X)) (S:Nat->dP) (H:Nat->Hp) (B:Bs) (D:Nat->Bool) (a:Act) (w:World) (V:Vw) (γ:Nat->Nat) (β:Nat):Prop where
 bm:β<=sl.length
 uf:∀ j,j<β->Bar cx sl kd j->D j=true
 kD:β<sl.length->Bar cx sl kd β/\D β=false
 Aq:∀ j,β<=j->j<sl.length->rR (kd j)->D j=false\/rT sl j
 mr:MR B.w0 (Vr V (H β).n) (H β) w
 nw:∀ b,V.S b->B.w0.heap.size<=V.ρ b/\V.ρ b<w.heap.size
 oG:∀ b,V.S b->(H β).n<=b->b<65536/\(∃ i,β<i/\i<sl.length/\rT sl i/\(H i).n=b/\(H (i+1)).n=b+1/\bH (Vr V (H (i+1)).n) w b (gH (H (i+1)) b))/\∀ b',V.S b'->V.ρ b'=V.ρ b->b'=b
 bq:∀ q,q<=sl.length->(∀ i,i<sl.length->Bar cx sl kd i->D i=true->i<q)->∀ b,V.S b->b<(H q).n->b<(H β).n->bH (Vr V (H q).n) w b (gH (H β) b)
 nm:∀ b,V.S b->b<(H 0).n\/∃ i,i<sl.length/\D i=true/\rR (kd i)/\(H i).n<=b/\b<(H (i+1)).n
 bS:Stp B.fl B.V B.h B.w V w
 tm:∀ k v n,FD (uT sl sv H) D (t0 S H) sl.length k=some (v,n)->nA (Vr V n) γ (a.eval (.tmp k)) v
 vr:∀ p x n,FD (uC var H) D (c0 S H) sl.length p=some (x,n)->B.w.heap.size<=γ p/\(∃ cells e,w.heap[γ p]? =some (.cells cells e (0,0))/\fH (Vr V n) x cells)/\∀ b,V.S b->V.ρ b≠γ p
 inj:∀ p q x y,FD (uC var H) D (c0 S H) sl.length p=some x->FD (uC var H) D (c0 S H) sl.length q=some y->p≠q->γ p≠γ q
 df:a.defers=[]
 sz:a.tmps.size=B.nt
 b0:B.w0.heap.size<=B.w.heap.size
structure Next (cx:Cx) (sl:List SOper) (kd:Nat->Kd) (sv:Nat->SV) (var:Nat->Option (Nat×X)) (S:Nat->dP) (H:Nat->Hp) (D:Nat->Bool) (j:Nat) (so:SOper):Prop where
 lt:j<sl.length
 Lv:∀ k ∈ looks so,FD (uT sl sv H) D (t0 S H) sl.length k=FD (uT sl sv H) (fun _=>true) (t0 S H) j k
 Di:∀ p,(1000000+p) ∈ (kY cx sl so).u->FD (uC var H) D (c0 S H) sl.length p=FD (uC var H) (fun _=>true) (c0 S H) j p
 inT:∀ k,FD (uT sl sv H) (fun i=>D i||i==j) (t0 S H) sl.length k=if so.dst=some k then some (sv j,(H (j+1)).n) else FD (uT sl sv H) D (t0 S H) sl.length k
 yj:∀ p,FD (uC var H) (fun i=>D i||i==j) (c0 S H) sl.length p=match var j with
  |some (q,y)=>if q=p then some (y,(H (j+1)).n) else FD (uC var H) D (c0 S H) sl.length p
  |none=>FD (uC var H) D (c0 S H) sl.length p
 lo:∀ i,i<j->rR (kd i)->rR (kd j)->Bar cx sl kd i\/Bar cx sl kd j->D i=true\/(Bar cx sl kd i/\rT sl j)
 hi:∀ i,j<i->i<sl.length->rR (kd i)->rR (kd j)->Bar cx sl kd i\/Bar cx sl kd j->D i=false\/(Bar cx sl kd j/\rT sl i)
theorem Lx {i:Nat} (h:rT sl i):¬ Bar cx sl kd i:=fun ⟨_,so,h1,h2⟩=>by
 obtain ⟨x,h3,h4⟩:=h
 rw [h1] at h3;cases h3
 have:(kY cx sl so).c=2:=by
  cases ho:so.op<;>rw [ho] at h4<;>first|(cases h4;done)|skip
  show (dF _ _ so).c=2
  unfold dF;rw [ho];rfl
 unfold vW at h2
 rw [this] at h2;cases h2
theorem Dat.am7 (hd:Dat P cx ops sl nt kd sv var S H) {i p:Nat} {x:SOper} (hx:sl[i]? =some x) (h:Key (uC var H) i p):(1000000+p) ∈ (kY cx sl x).d:=by
 obtain ⟨v,hv⟩:=h
 obtain ⟨o,ho,_⟩:=hd.op i x hx
 have he:=hd.av i x o hx ho
 have hk:=hd.Dh i x hx
 unfold uC at hv
 cases hkd:kd i with
 |pure LC=>rw [hkd] at he;rw [he.1] at hv;cases hv
 |heap fl=>rw [hkd] at he;rw [he.1] at hv;cases hv
 |store q=>
  rw [hkd] at he hk
  obtain ⟨_,y,_,hvar,_⟩:=he
  rw [hvar] at hv
  cases hv
  obtain ⟨h1,_,sz,a,b,hop⟩:=hk
  have h2:=h1 _ rfl
  have hop':x.op= .store sz a b:=hop
  have h2:ni (aliases cx.PV sl []) cx.PV x.op=some q:=h2
  rw [hop'] at h2
  exact (Sk hop' h2).2
 |new q=>
  rw [hkd] at hk he
  obtain ⟨h1,h2,h3⟩:=hk
  obtain ⟨_,_,_,y,hvar,_⟩:=he
  rw [hvar] at hv
  cases hv
  exact am4 h1 h2 h3
theorem apart_spec {x y:Rs} (h:CF x y=true):(∀ d ∈ x.d,d ∉ y.u/\d ∉ y.d)/\∀ d ∈ y.d,d ∉ x.u:=by
 unfold CF at h
 simp only [Bool.and_eq_true,List.all_eq_true,Bool.not_eq_true',Bool.eq_false_iff,ne_eq,List.contains_iff_mem] at h
 exact ⟨h.1,h.2⟩
theorem Dat.next (hd:Dat P cx ops sl nt kd sv var S H) {D:Nat->Bool} (hD:Closed sl D) {j:Nat} {so:SOper} (ho:sl[j]? =some so) (hj:D j=false) (hjr:∀ e ∈ so.after,D e=true):Next cx sl kd sv var S H D j so:=by
 obtain ⟨h1,h2⟩:=amZ hd.ok hD ho hj hjr
 have hlt:j<sl.length:=(List.getElem?_eq_some_iff.1 ho).1
 have get:∀ i,i<sl.length->∃ x,sl[i]? =some x:=fun i hi=>⟨_,List.getElem?_eq_getElem hi⟩
 have rd:∀ {β:Type} {u:Nat->Option (Nat×β)} {t:Nat->Option β} {k K:Nat},(∀ i x,sl[i]? =some x->Key u i k->K ∈ (kY cx sl x).d)->K ∈ (kY cx sl so).u->FD u D t sl.length k=FD u (fun _=>true) t j k:=by
  intro β u t k K hK hu
  rw [<-Sg (n:=sl.length) (by omega)]
  refine Ao fun i hi hk=> ?_
  obtain ⟨x,hx⟩:=get i hi
  have hm:=hK i x hx hk
  rcases Nat.lt_trichotomy i j with hij|rfl|hij
  ·rw [decide_eq_true hij]
   rcases h1 i x hij hx with h|h
   ·exact h
   ·exact absurd hu ((apart_spec h.ap).1 K hm).1
  ·rw [decide_eq_false (by omega)];exact hj
  ·rw [decide_eq_false (by omega)]
   cases iB:D i with
   |false=>rfl
   |true=>exact absurd hu ((apart_spec (h2 i x hij hx iB).ap).2 K hm)
 have ins:∀ {β:Type} {u:Nat->Option (Nat×β)} {k:Nat} (f:Nat->Nat),(∀ i x,sl[i]? =some x->Key u i k->f k ∈ (kY cx sl x).d)->∀ i,j<i->i<sl.length->D i=true->Key u i k->¬ Key u j k:=by
  intro β u k f hK i hi hil iB hk hk'
  obtain ⟨x,hx⟩:=get i hil
  exact ((apart_spec (h2 i x hi hx iB).ap).1 _ (hK j so ho hk')).2 (hK i x hx hk)
 have kT:∀ k i x,sl[i]? =some x->Key (uT sl sv H) i k->k ∈ (kY cx sl x).d:=fun k i x hx hk=>am3 (Ls hx hk)
 have kC:∀ p i x,sl[i]? =some x->Key (uC var H) i p->(1000000+p) ∈ (kY cx sl x).d:=fun p i x hx hk=>hd.am7 hx hk
 have heap:∀ i x,sl[i]? =some x->rR (kd i)->(kY cx sl x).c≠0:=fun i x hx hh=>by
  have hk:=hd.Dh i x hx
  cases hkd:kd i with
  |heap fl=>rw [hkd] at hk;exact (Lr hk).1
  |pure LC=>rw [hkd] at hh;exact hh.elim
  |store p=>rw [hkd] at hh;exact hh.elim
  |new p=>rw [hkd] at hh;exact hh.elim
 refine ⟨hlt,fun k hk=>rd (kT k) (am2 k hk),fun p hp=>rd (kC p) hp,fun k=> ?_,fun p=> ?_,fun i hi hhi lU hb=> ?_,fun i hi hil hhi lU hb=> ?_⟩
 ·rw [Lp hj hlt (ins id (kT k))]
  unfold uT
  rw [ho]
  cases hdst:so.dst with
  |none=>simp [hdst]
  |some d=>simp [hdst]
 ·rw [Lp hj hlt (ins (fun p=>1000000+p) (kC p))]
  unfold uC
  cases var j with
  |none=>rfl
  |some q=>rfl
 ·obtain ⟨x,hx⟩:=get i (by omega)
  rcases h1 i x hi hx with h|h
  ·exact .inl h
  ·have hbi:=hb
   rcases hb with ⟨_,x',hx',hb⟩|⟨_,x',hx',hb⟩
   ·rw [hx] at hx';cases hx'
    rcases h.bx hb with h|h
    ·exact absurd h (heap j so ho lU)
    ·exact .inr ⟨⟨hhi,x,hx,hb⟩,so,ho,h⟩
   ·rw [ho] at hx';cases hx'
    exact absurd (h.aP hb) (heap i x hx hhi)
 ·obtain ⟨x,hx⟩:=get i hil
  cases iB:D i with
  |false=>exact .inl rfl
  |true=>
   have h:=h2 i x hi hx iB
   rcases hb with ⟨_,x',hx',hb⟩|⟨_,x',hx',hb⟩
   ·rw [hx] at hx';cases hx'
    exact absurd (h.aP hb) (heap j so ho lU)
   ·rw [ho] at hx';cases hx'
    rcases h.bx hb with h|h
    ·exact absurd h (heap i x hx hhi)
    ·exact .inr ⟨⟨lU,so,ho,hb⟩,x,hx,h⟩
end
end
end Go.M
namespace Go.M
open Go
open Go.Eng (SOp SOper SCode stripOper stripOps stripCode)
noncomputable section
variable [aY]
def pk (p:Prop) (x y:Nat):Nat:= @ite Nat p (Classical.propDecidable p) x y
theorem Ar {p:Prop} {x y:Nat} (h:p):pk p x y=x:=by unfold pk;exact if_pos h
theorem LD {p:Prop} {x y:Nat} (h:¬ p):pk p x y=y:=by unfold pk;exact if_neg h
def Dj (V V':Vw):Vw:=⟨fun b=>V.S b\/V'.S b,fun b=>pk (V.S b) (V.ρ b) (V'.ρ b),fun b=>pk (V.S b) (V.σ b) (V'.σ b),fun b=>pk (V.S b) (V.ε b) (V'.ε b)⟩
theorem Sl (V V':Vw):Ext V (Dj V V'):=⟨fun b h=> .inl h,fun b h=>Ar h,fun b h=>Ar h,fun b h=>Ar h⟩
theorem Sm {V V':Vw} (h:∀ b,V.S b->V'.S b->V'.ρ b=V.ρ b/\V'.σ b=V.σ b/\V'.ε b=V.ε b):Ext V' (Dj V V'):=by
 refine ⟨fun b h=> .inr h,fun b hb=> ?_,fun b hb=> ?_,fun b hb=> ?_⟩
 ·show pk (V.S b) (V.ρ b) (V'.ρ b)=_
  by_cases hv:V.S b
  ·rw [Ar hv];exact (h b hv hb).1.symm
  ·rw [LD hv]
 ·show pk (V.S b) (V.σ b) (V'.σ b)=_
  by_cases hv:V.S b
  ·rw [Ar hv];exact (h b hv hb).2.1.symm
  ·rw [LD hv]
 ·show pk (V.S b) (V.ε b) (V'.ε b)=_
  by_cases hv:V.S b
  ·rw [Ar hv];exact (h b hv hb).2.2.symm
  ·rw [LD hv]
section
variable {P:Program} {cx:Cx} {ops:Array Oper} {sl:List SOper} {nt:Nat} {kd:Nat->Kd} {sv:Nat->SV} {var:Nat->Option (Nat×X)} {S:Nat->dP} {H:Nat->Hp}
theorem Inv.tok (hd:Dat P cx ops sl nt kd sv var S H) {B:Bs} {D:Nat->Bool} {a:Act} {w:World} {V:Vw} {γ:Nat->Nat} {β j:Nat} {so:SOper} (hI:Inv cx sl kd sv var S H B D a w V γ β) (hN:Next cx sl kd sv var S H D j so) {V':Vw} (hV:Ext (Vr V (H j).n) V'):iX (S j) V' γ a (looks so):=fun k hk v hv=>by
 obtain ⟨n,hn⟩:=hd.Lu (Nat.le_of_lt hN.lt) hv
 have hb:=hd.bT (Nat.le_of_lt hN.lt) hn
 rw [<-hN.Lv k hk] at hn
 have h1:=hI.tm k v n hn
 have h2:Ext (Vr V n) (Vr V (H j).n):=Vr.mono (.refl V) hb
 exact (h1.mono h2).mono hV
theorem Inv.LF (hd:Dat P cx ops sl nt kd sv var S H) {B:Bs} {D:Nat->Bool} {a:Act} {w:World} {V:Vw} {γ:Nat->Nat} {β j:Nat} {so:SOper} (hI:Inv cx sl kd sv var S H B D a w V γ β) (hN:Next cx sl kd sv var S H D j so) {p:Nat} (hp:(1000000+p) ∈ (kY cx sl so).u) {x:X} (hx:(S j).C p=some x):
  (∃ n,FD (uC var H) D (c0 S H) sl.length p=some (x,n))/\vN B.w.heap.size (Vr V (H j).n) γ w p x:=by
 obtain ⟨n,hn⟩:=hd.Ap (Nat.le_of_lt hN.lt) hx
 have hb:=hd.bC (Nat.le_of_lt hN.lt) hn
 rw [<-hN.Di p hp] at hn
 obtain ⟨h1,⟨cells,e,h2,h3⟩,h4⟩:=hI.vr p x n hn
 exact ⟨⟨n,hn⟩,h1,⟨cells,e,h2,h3.mono (Vr.mono (.refl V) hb)⟩,fun b hb=>h4 b hb.1⟩
theorem Au {B:Bs} {D:Nat->Bool} {a:Act} {V V2:Vw} {γ:Nat->Nat} {j:Nat} {so:SOper} {v:Value} (hN:Next cx sl kd sv var S H D j so) (hdst:∀ t,so.dst=some t->t<a.tmps.size)
  (ht:∀ k v n,FD (uT sl sv H) D (t0 S H) sl.length k=some (v,n)->nA (Vr V n) γ (a.eval (.tmp k)) v) (hE:Ext V V2) (hv:so.dst≠none->nA (Vr V2 (H (j+1)).n) γ v (sv j)):
  ∀ k u n,FD (uT sl sv H) (fun i=>D i||i==j) (t0 S H) sl.length k=some (u,n)->nA (Vr V2 n) γ ((a.put so.dst v).eval (.tmp k)) u:=fun k u n hk=>by
 rw [hN.inT k] at hk
 cases hs:so.dst with
 |none=>
  rw [hs,if_neg (by simp)] at hk
  rw [RV]
  exact (ht k u n hk).mono (Vr.mono hE (Nat.le_refl _))
 |some t=>
  rw [hs] at hk
  rw [Le (hdst t hs)]
  by_cases e:t=k
  ·subst e
   rw [if_pos rfl] at hk ⊢
   cases hk
   exact hv (by rw [hs];simp)
  ·rw [if_neg (by simpa using e)] at hk
   rw [if_neg e]
   exact (ht k u n hk).mono (Vr.mono hE (Nat.le_refl _))
theorem am8 (hd:Dat P cx ops sl nt kd sv var S H) {i i' b:Nat} (h1:i<sl.length) (h2:i'<sl.length) (k3:(H i).n=b) (k4:(H i').n=b) (h3:(H (i+1)).n=b+1) (h4:(H (i'+1)).n=b+1):i=i':=by
 rcases Nat.lt_trichotomy i i' with h|h|h
 ·have:=hd.d9 (i:=i+1) (j:=i') h (by omega)
  omega
 ·exact h
 ·have:=hd.d9 (i:=i'+1) (j:=i) h (by omega)
  omega
theorem Ir (hd:Dat P cx ops sl nt kd sv var S H) {B:Bs} (dR:B.nt=nt) (dB:B.fl=(H 0).fl) (dI:B.h.n<=(H 0).n) {D:Nat->Bool} {j:Nat} {so:SOper} {o:Oper} (hso:sl[j]? =some so) (ho:ops[j]? =some o) (hs1:stripOper P ops true o=some so) (hj:D j=false) (uJ:Closed sl D) (hN:Next cx sl kd sv var S H D j so)
  {a:Act} {w:World} {V:Vw} {γ:Nat->Nat} {β:Nat} (hI:Inv cx sl kd sv var S H B D a w V γ β):
  GW P ops o a w fun v w'=>∃ V' γ' β',Inv cx sl kd sv var S H B (fun i=>D i||i==j) (a.put o.dst v) w' V' γ' β':=by
 have hlt:=hN.lt
 have hod:o.dst=so.dst:=(sK hs1).2.1.symm
 rw [hod]
 have hdst:∀ t,so.dst=some t->t<a.tmps.size:=fun t ht=>by rw [hI.sz,dR];exact (FZ (hd.okd j so hso) t ht).1
 have he:=hd.av j so o hso ho
 have hk:=hd.Dh j so hso
 have ayC:∀ i,(D i||i==j)=true↔D i=true\/i=j:=fun i=>by simp
 have oH:∀ i,i≠j->(D i||i==j)=D i:=fun i hi=>by simp [hi]
 have hn1:(H j).n<=(H (j+1)).n:=(hd.hle j hlt).n
 cases hkd:kd j with
 |new p=>
  rw [hkd] at he hk
  obtain ⟨hHH,hsv,_,x,hvar,he⟩:=he
  obtain ⟨hnw,hdp,hpv⟩:=hk
  have hnw:ow so.op=true:=hnw
  have hdp:so.dst=some p:=hdp
  have hnb:¬ Bar cx sl kd j:=fun hb=>by have:=hb.1;rw [hkd] at this;exact this
  have hoff:=amY hd.ok uJ hso hnw hdp hpv hj
  have hno:∀ k off c n,k≠p->FD (uT sl sv H) D (t0 S H) sl.length k≠some (.ptr p off c,n):=fun k off c n hkp hk=>by
   rcases F5 hk with h|⟨i,h1,h2,h3⟩
   ·unfold t0 at h
    simp only [Option.map_eq_some_iff,Prod.mk.injEq] at h
    obtain ⟨v,h4,rfl,_⟩:=h
    exact hkp (hd.s0 k p off c h4)
   ·have hij:i≠j:=fun e=>by rw [e,hj] at h2;cases h2
    obtain ⟨iA,Dk⟩:∃ iA,sl[i]? =some iA:=⟨_,List.getElem?_eq_getElem h1⟩
    have hdk:=Ls Dk ⟨_,h3⟩
    unfold uT at h3
    rw [Dk] at h3
    simp only [Option.bind_some,Option.map_eq_some_iff,Prod.mk.injEq] at h3
    obtain ⟨d,_,_,h4,_⟩:=h3
    rcases hd.svo i iA Dk p off c h4 (by show iA.dst≠none;rw [hdk];simp) with h5|h5
    ·have hk':=hd.Dh i iA Dk
     rw [h5] at hk'
     have h6:iA.dst=some p:=hk'.2.1
     rw [hdk] at h6
     exact hkp (by simpa using h6)
    ·have:=hoff i iA hij Dk (h5 _ rfl)
     rw [h2] at this;cases this
  have hlt':∀ b,V.S b->V.ρ b≠w.heap.size:=fun b hb=>by have:=(hI.nw b hb).2;omega
  refine (he (Vr V (H j).n) γ w a (hI.tok hd hN (.refl _))).mono fun v w' ⟨h0,cells,e,h1,h2,h3⟩=> ?_
  subst h0
  refine ⟨V,fun q=>if q=p then w.heap.size else γ q,β,⟨hI.bm,fun i hi hb=>by have:=hI.uf i hi hb;simp [this],fun hb=>⟨(hI.kD hb).1,?_⟩,fun i h1 h3 h4=> ?_,hI.mr.setAt h1 (by omega) hI.mr.sz (fun b hb=>hlt' b hb.1),fun b hb=>⟨(hI.nw b hb).1,by have:=(hI.nw b hb).2;omega⟩,fun b hb hn=>by
    obtain ⟨m1,⟨i,m2,m3,mk,m4,m5,m6⟩,m7⟩:=hI.oG b hb hn
    exact ⟨m1,⟨i,m2,m3,mk,m4,m5,m6.world (h1.keep _ (hlt' b hb))⟩,m7⟩,
   fun q hq hb b hbS hbn rU=>(hI.bq q hq (fun i hi hbi iB=>hb i hi hbi (by simp [iB])) b hbS hbn rU).world (h1.keep _ (hlt' b hbS)),fun b hb=> ?_,?_,fun k u n hk=> ?_,fun q z n hq=> ?_,fun q q' z z' hq hq' hne=> ?_,by rw [put_defers];exact hI.df,by rw [jr];exact hI.sz,hI.b0⟩⟩
  ·rw [oH β (fun e=>hnb (e▸(hI.kD hb).1))];exact (hI.kD hb).2
  ·rw [oH i (fun e=>by subst e;rw [hkd] at h4;exact h4)];exact hI.Aq i h1 h3 h4
  ·rcases hI.nm b hb with h|⟨i,h5,h6,h7⟩
   ·exact .inl h
   ·exact .inr ⟨i,h5,by simp [h6],h7⟩
  ·exact ⟨hI.bS.ext,hI.bS.new,fun g hg hk=>by rw [h1.keep g (by have:=hI.bS.size;omega)];exact hI.bS.keep g hg hk,by have:=hI.bS.size;omega⟩
  ·rw [hN.inT k] at hk
   rw [hdp] at hk ⊢
   rw [Le (hdst p hdp)]
   by_cases e:p=k
   ·subst e
    rw [if_pos rfl] at hk ⊢
    simp only [Option.some.injEq,Prod.mk.injEq] at hk
    obtain ⟨rfl,rfl⟩:=hk
    rw [hsv]
    intro _
    show _=Value.pointer (some ⟨if p=p then w.heap.size else γ p,0,none⟩)
    rw [if_pos rfl]
   ·rw [if_neg (by simpa using e)] at hk
    rw [if_neg e]
    have:=hI.tm k u n hk
    cases u with
    |val z=>exact this
    |ptr q off c=>
     have xQ:q≠p:=fun e'=>hno k off c n (Ne.symm e) (by rw [<-e'];exact hk)
     intro hc
     show _=Value.pointer (some ⟨if q=p then w.heap.size else γ q,off,none⟩)
     rw [if_neg xQ];exact this hc
  ·rw [hN.yj,hvar] at hq
   simp only at hq
   by_cases e2:p=q
   ·subst e2
    rw [if_pos rfl] at hq
    simp only [Option.some.injEq,Prod.mk.injEq] at hq
    obtain ⟨rfl,rfl⟩:=hq
    refine ⟨?_,?_,?_⟩<;>simp only [if_true]
    ·exact hI.bS.size
    ·exact ⟨cells,e,h1.get,h3.mono (Vr.mono (.refl V) hn1)⟩
    ·exact hlt'
   ·rw [if_neg e2] at hq
    obtain ⟨g1,⟨c2,e3,g2,g3⟩,g4⟩:=hI.vr q z n hq
    have hsz:γ q<w.heap.size:=(Array.getElem?_eq_some_iff.1 g2).1
    refine ⟨?_,?_,?_⟩<;>simp only [if_neg (Ne.symm e2)]
    ·exact g1
    ·exact ⟨c2,e3,by rw [h1.keep _ (by omega)];exact g2,g3⟩
    ·exact g4
  ·have key:∀ {q z},q≠p->FD (uC var H) (fun i=>D i||i==j) (c0 S H) sl.length q=some z->FD (uC var H) D (c0 S H) sl.length q=some z:=fun {q z} hn hq=>by
    rw [hN.yj,hvar] at hq
    simp only at hq
    rw [if_neg (Ne.symm hn)] at hq;exact hq
   have size:∀ {q z},FD (uC var H) D (c0 S H) sl.length q=some z->γ q<w.heap.size:=fun {q z} hq=>by
    obtain ⟨z,n⟩:=z
    obtain ⟨_,⟨c2,e3,g2,_⟩,_⟩:=hI.vr q z n hq
    exact (Array.getElem?_eq_some_iff.1 g2).1
   show (if q=p then w.heap.size else γ q)≠(if q'=p then w.heap.size else γ q')
   by_cases e1:q=p
   ·have e2:q'≠p:=fun e=>hne (e1.trans e.symm)
    rw [if_pos e1,if_neg e2]
    have:=size (key e2 hq')
    omega
   ·by_cases e2:q'=p
    ·rw [if_neg e1,if_pos e2]
     have:=size (key e1 hq)
     omega
    ·rw [if_neg e1,if_neg e2]
     exact hI.inj q q' z z' (key e1 hq) (key e2 hq') hne
 |pure LC=>
  rw [hkd] at he hk
  obtain ⟨hvar,he⟩:=he
  have hnb:¬ Bar cx sl kd j:=fun hb=>by have:=hb.1;rw [hkd] at this;exact this
  have hLC:∀ p ∈ LC,(1000000+p) ∈ (kY cx sl so).u:=fun p hp=>by
   rcases hk with h|⟨q,h1,h2,ag,sz,x,hop⟩
   ·rw [h] at hp;simp at hp
   ·rw [h1] at hp
    simp at hp;subst hp
    have h2:=h2 _ rfl
    have hop:so.op= .load ag sz x:=hop
    have h2:ni (aliases cx.PV sl []) cx.PV so.op=some p:=h2
    rw [hop] at h2
    exact am5 hop h2
  refine (he B.w.heap.size (Vr V (H j).n) γ w a (hI.tok hd hN (.refl _)) fun p hp x hx=>(hI.LF hd hN (hLC p hp) hx).2).mono fun v w' ⟨h1,h2⟩=> ?_
  subst h1
  refine ⟨V,γ,β,⟨hI.bm,fun i hi hb=>by have:=hI.uf i hi hb;simp [this],fun hb=>⟨(hI.kD hb).1,?_⟩,fun i h1 h3 h4=> ?_,hI.mr,hI.nw,hI.oG,fun q hq hb=>hI.bq q hq fun i hi hbi iB=>hb i hi hbi (by simp [iB]),fun b hb=> ?_,hI.bS,
   Au (B:=B) hN hdst hI.tm (.refl V) (fun _=>h2.mono (Vr.mono (.refl V) hn1)),fun p x n hp=> ?_,fun p q x y hp hq=> ?_,by rw [put_defers];exact hI.df,by rw [jr];exact hI.sz,hI.b0⟩⟩
  ·rw [oH β (fun e=>hnb (e▸(hI.kD hb).1))];exact (hI.kD hb).2
  ·rw [oH i (fun e=>by subst e;rw [hkd] at h4;exact h4)];exact hI.Aq i h1 h3 h4
  ·rcases hI.nm b hb with h|⟨i,h5,h6,h7⟩
   ·exact .inl h
   ·exact .inr ⟨i,h5,by simp [h6],h7⟩
  ·rw [hN.yj,hvar] at hp;exact hI.vr p x n hp
  ·rw [hN.yj,hvar] at hp hq;exact hI.inj p q x y hp hq
 |store p=>
  rw [hkd] at he hk
  obtain ⟨hHH,x,y,hvar,hy,he⟩:=he
  have hnb:¬ Bar cx sl kd j:=fun hb=>by have:=hb.1;rw [hkd] at this;exact this
  obtain ⟨k1,k2,sz,xa,xb,hop⟩:=hk
  have hvp:=k1 _ rfl
  have hop:so.op= .store sz xa xb:=hop
  have hvp:ni (aliases cx.PV sl []) cx.PV so.op=some p:=hvp
  rw [hop] at hvp
  have Sn:=(Sk hop hvp).1
  obtain ⟨⟨n0,hn0⟩,hpv⟩:=hI.LF hd hN Sn hy
  have F8:∀ b,V.S b->V.ρ b≠γ p:=(hI.vr p y n0 hn0).2.2
  refine (he B.w.heap.size (Vr V (H j).n) γ w a (hI.tok hd hN (.refl _)) fun q hq z hz=>by simp at hq;subst hq;exact (hI.LF hd hN Sn hz).2).mono fun v w' ⟨cells,e,h1,h2,h3⟩=> ?_
  refine ⟨V,γ,β,⟨hI.bm,fun i hi hb=>by have:=hI.uf i hi hb;simp [this],fun hb=>⟨(hI.kD hb).1,?_⟩,fun i h1 h3 h4=> ?_,hI.mr.setAt h1 (by omega) (Nat.le_trans hI.b0 hpv.1) (fun b hb=>F8 b hb.1),fun b hb=>⟨(hI.nw b hb).1,by rw [h2];exact (hI.nw b hb).2⟩,fun b hb hn=>by
    obtain ⟨m1,⟨i,m2,m3,mk,m4,m5,m6⟩,m7⟩:=hI.oG b hb hn
    exact ⟨m1,⟨i,m2,m3,mk,m4,m5,m6.world (h1.keep _ (F8 b hb))⟩,m7⟩,
   fun q hq hb b hbS hbn rU=>(hI.bq q hq (fun i hi hbi iB=>hb i hi hbi (by simp [iB])) b hbS hbn rU).world (h1.keep _ (F8 b hbS)),fun b hb=> ?_,?_,
   Au (B:=B) hN hdst hI.tm (.refl V) (fun hne=>absurd k2 hne),fun q z n hq=> ?_,fun q q' z z' hq hq' hne=> ?_,by rw [put_defers];exact hI.df,by rw [jr];exact hI.sz,hI.b0⟩⟩
  ·rw [oH β (fun e=>hnb (e▸(hI.kD hb).1))];exact (hI.kD hb).2
  ·rw [oH i (fun e=>by subst e;rw [hkd] at h4;exact h4)];exact hI.Aq i h1 h3 h4
  ·rcases hI.nm b hb with h|⟨i,h5,h6,h7⟩
   ·exact .inl h
   ·exact .inr ⟨i,h5,by simp [h6],h7⟩
  ·exact ⟨hI.bS.ext,hI.bS.new,fun g hg hk=>by rw [h1.keep g (by have:=hpv.1;omega)];exact hI.bS.keep g hg hk,by rw [h2];exact hI.bS.size⟩
  ·rw [hN.yj,hvar] at hq
   simp only at hq
   by_cases e2:p=q
   ·subst e2
    rw [if_pos rfl] at hq
    simp only [Option.some.injEq,Prod.mk.injEq] at hq
    obtain ⟨rfl,rfl⟩:=hq
    exact ⟨hpv.1,⟨cells,e,h1.get,h3.mono (Vr.mono (.refl V) hn1)⟩,F8⟩
   ·rw [if_neg e2] at hq
    obtain ⟨g1,⟨c2,e3,g2,g3⟩,g4⟩:=hI.vr q z n hq
    exact ⟨g1,⟨c2,e3,by rw [h1.keep _ (hI.inj q p _ _ hq hn0 (Ne.symm e2))];exact g2,g3⟩,g4⟩
  ·have key:∀ {q z},FD (uC var H) (fun i=>D i||i==j) (c0 S H) sl.length q=some z->∃ z',FD (uC var H) D (c0 S H) sl.length q=some z':=fun {q z} hq=>by
    rw [hN.yj,hvar] at hq
    simp only at hq
    by_cases e2:p=q
    ·subst e2;exact ⟨_,hn0⟩
    ·rw [if_neg e2] at hq;exact ⟨_,hq⟩
   obtain ⟨z1,hz1⟩:=key hq
   obtain ⟨z2,hz2⟩:=key hq'
   exact hI.inj q q' z1 z2 hz1 hz2 hne
 |heap fl=>
  rw [hkd] at he hk
  obtain ⟨hvar,x,hsv,he⟩:=he
  have lU:rR (kd j):=by rw [hkd];trivial
  have hfl:=(Lr hk).2
  have vX:∀ p,FD (uC var H) (fun i=>D i||i==j) (c0 S H) sl.length p=FD (uC var H) D (c0 S H) sl.length p:=fun p=>by rw [hN.yj,hvar]
  by_cases hbj:Bar cx sl kd j
  ·
   have anb:¬ rT sl j:=fun h=>Lx h hbj
   have hjb:j=β:=by
    rcases Nat.lt_trichotomy j β with h|h|h
    ·have:=hI.uf j h hbj;rw [hj] at this;cases this
    ·exact h
    ·have hβ:=hI.kD (by omega)
     rcases hN.lo β h hβ.1.1 lU (.inl hβ.1) with h|⟨_,h⟩
     ·rw [hβ.2] at h;cases h
     ·exact absurd h anb
   subst hjb
   refine (he B.w0 (Vr V (H j).n) γ w a hI.mr (hI.tok hd hN (.refl _))).mono fun v w' ⟨V',g1,g2,g3⟩=> ?_
   obtain ⟨β',c1,c2,c3,c4⟩:∃ β',j<β'/\β'<=sl.length/\(∀ q,j<q->q<β'->¬ Bar cx sl kd q)/\(β'<sl.length->Bar cx sl kd β'):=by
    by_cases hex:∃ q,j<q/\q<sl.length/\Bar cx sl kd q
    ·have least:∀ n,(∃ q,j<q/\q<=n/\q<sl.length/\Bar cx sl kd q)->∃ q,j<q/\q<sl.length/\Bar cx sl kd q/\∀ q',j<q'->q'<q->¬ Bar cx sl kd q':=by
      intro n
      induction n with
      |zero=>rintro ⟨q,h1,h2,_⟩;omega
      |succ n ih=>
       rintro ⟨q,h1,h2,h3,h4⟩
       by_cases hh:∃ q,j<q/\q<=n/\q<sl.length/\Bar cx sl kd q
       ·exact ih hh
       ·exact ⟨q,h1,h3,h4,fun q' h5 h6 hb=>hh ⟨q',h5,by omega,by omega,hb⟩⟩
     obtain ⟨q,h1,h2,h3⟩:=hex
     obtain ⟨q,d1,d2,d3,d4⟩:=least q ⟨q,h1,Nat.le_refl _,h2,h3⟩
     exact ⟨q,d1,Nat.le_of_lt d2,d4,fun _=>d3⟩
    ·exact ⟨sl.length,hlt,Nat.le_refl _,fun q h1 h2 hb=>hex ⟨q,h1,h2,hb⟩,fun h=>absurd h (Nat.lt_irrefl _)⟩
   have hch:∀ b,V'.S b->gH (H β') b=gH (H (j+1)) b:=fun b hb=>hd.chain (i:=j+1) (by omega) c2 (fun q h1 h2=>c3 q (by omega) h2) b (g1.nb b hb).1 (g1.nb b hb).2
   have kE:∀ b,V'.S b->b<(H (j+1)).n:=fun b hb=>(g1.nb b hb).1
   have Sq:∀ b,V'.S b->b<(H β').n:=fun b hb=>Nat.lt_of_lt_of_le (kE b hb) (hd.d9 (by omega) c2)
   have LG:B.fl<=fl:=by
    have h1:=hd.fl j (Nat.le_of_lt hlt)
    have h2:=hd.Db j (Nat.le_of_lt hlt)
    rcases hfl with e|⟨e,_⟩<;>omega
   have hxi:∀ b,V.S b->(H j).n<=b->b<65536/\∃ i,j<i/\i<sl.length/\rT sl i/\(H i).n=b/\(H (i+1)).n=b+1/\bH (Vr V (H (i+1)).n) w b (gH (H (i+1)) b):=fun b hb hn=>⟨(hI.oG b hb hn).1,(hI.oG b hb hn).2.1⟩
   have hxu:∀ b,V.S b->(H j).n<=b->∀ b',V.S b'->V.ρ b'=V.ρ b->b'=b:=fun b hb hn=>(hI.oG b hb hn).2.2
   have hboth:∀ b,V.S b->V'.S b->b<(H j).n:=fun b hb hb'=>by
    rcases Nat.lt_or_ge b (H j).n with h|h
    ·exact h
    ·obtain ⟨_,i,i1,i2,_,i3,_⟩:=hxi b hb h
     have:=kE b hb'
     have:=hd.d9 (i:=j+1) (j:=i) (by omega) (by omega)
     omega
   have LH:∀ b,V.S b->V'.S b->V'.ρ b=V.ρ b/\V'.σ b=V.σ b/\V'.ε b=V.ε b:=fun b hb hb'=>by
    have hr:(Vr V (H j).n).S b:=⟨hb,hboth b hb hb'⟩
    exact ⟨g3.ext.ρ b hr,g3.ext.σ b hr,g3.ext.ε b hr⟩
   have hEl:=Sl V V'
   have hEr:=Sm LH
   have gI:∀ b,(Dj V V').S b->V'.S b\/(V.S b/\(H j).n<=b):=fun b hb=>by
    rcases hb with h|h
    ·rcases Nat.lt_or_ge b (H j).n with hn|hn
     ·exact .inl (g3.ext.S b ⟨h,hn⟩)
     ·exact .inr ⟨h,hn⟩
    ·exact .inl h
   generalize Dj V V'=Vm at hEl hEr gI
   have hkX:∀ b,V.S b->(H j).n<=b->w'.heap[V.ρ b]? =w.heap[V.ρ b]? :=fun b hb hn=>g3.keep _ (hI.nw b hb).2 fun b0 hb0 _ e=>by
    have:=hxu b hb hn b0 hb0.1 e
    subst this
    have:=hb0.2
    omega
   have LJ:∀ b b',V.S b->(H j).n<=b->V'.S b'->V'.ρ b'≠V.ρ b:=fun b b' hb hn hb' e=>by
    rcases g3.new b' hb' with h|⟨_,h|⟨b0,h3,_,h5⟩⟩
    ·rw [g3.ext.ρ b' h] at e
     have:=hxu b hb hn b' h.1 e
     subst this
     have:=h.2
     omega
    ·have:=(hI.nw b hb).2
     omega
    ·rw [h5] at e
     have:=hxu b hb hn b0 h3.1 e
     subst this
     have:=h3.2
     omega
   have LK:∀ b,V.S b->(H j).n<=b->∀ q,q<=sl.length->b<(H q).n->∃ i,j<i/\i<q/\(H i).n=b/\(H (i+1)).n=b+1/\b<65536/\bH (Vr Vm (H q).n) w' b (gH (H (i+1)) b):=fun b hb hn q hq hbq=>by
    obtain ⟨rV,i,i1,i2,_,i3,i4,i5⟩:=hxi b hb hn
    have hiq:i<q:=by
     rcases Nat.lt_or_ge i q with h|h
     ·exact h
     ·have:=hd.d9 (i:=q) (j:=i) h (by omega)
      omega
    exact ⟨i,i1,hiq,i3,i4,rV,i5.mono (Vr.mono hEl (hd.d9 (by omega) hq)) ⟨hb,by omega⟩ (hkX b hb hn)⟩
   have Sr:∀ b i,j<i->i<β'->(H (i+1)).n=b+1->b<65536->gH (H β') b=gH (H (i+1)) b:=fun b i h1 h2 h3 h4=>hd.chain (i:=i+1) (by omega) c2 (fun q h5 h6=>c3 q (by omega) h6) b (by omega) h4
   have hnw:∀ b,Vm.S b->B.w0.heap.size<=Vm.ρ b/\Vm.ρ b<w'.heap.size:=fun b hb=>by
    rcases gI b hb with h|⟨h,_⟩
    ·rw [hEr.ρ b h];exact g1.nw b h
    ·rw [hEl.ρ b h];exact ⟨(hI.nw b h).1,Nat.lt_of_lt_of_le (hI.nw b h).2 g3.size⟩
   have hmr:MR B.w0 (Vr Vm (H β').n) (H β') w':=by
    refine ⟨fun b hb=>⟨hb.2,?_⟩,fun b hb=> ?_,fun b b' hb hb' h1 h2 e=> ?_,fun b hb=>hnw b hb.1,g1.old,g1.sz,g1.os,g1.tape,g1.output,g1.ar⟩
    ·rcases gI b hb.1 with h|⟨h,hn⟩
     ·exact (g1.nb b h).2
     ·exact (hxi b h hn).1
    ·rcases gI b hb.1 with h|⟨h,hn⟩
     ·rw [hch b h];exact (g1.bl b h).mono (Vr.into hEr Sq) h rfl
     ·obtain ⟨i,i1,i2,_,i3,i4,i5⟩:=LK b h hn β' c2 hb.2
      rw [Sr b i i1 i2 i3 i4];exact i5
    ·have e:Vm.ρ b=Vm.ρ b':=e
     rcases gI b hb.1 with h|⟨h,hn⟩
     ·rcases gI b' hb'.1 with h'|⟨h',hn'⟩
      ·rw [hEr.ρ b h,hEr.ρ b' h'] at e
       exact g1.inj b b' h h' (by rw [<-hch b h];exact h1) (by rw [<-hch b' h'];exact h2) e
      ·rw [hEr.ρ b h,hEl.ρ b' h'] at e
       exact absurd e (LJ b' b h' hn' h)
     ·rcases gI b' hb'.1 with h'|⟨h',hn'⟩
      ·rw [hEl.ρ b h,hEr.ρ b' h'] at e
       exact absurd e.symm (LJ b b' h hn h')
      ·rw [hEl.ρ b h,hEl.ρ b' h'] at e
       exact (hxu b h hn b' h' e.symm).symm
   refine ⟨Vm,γ,β',⟨c2,fun i hi hb=> ?_,fun hb=>⟨c4 hb,?_⟩,fun i h1 h3 h4=> ?_,hmr,hnw,fun b hb hn=> ?_,fun q hq hb b hbS hbn rU=> ?_,fun b hb=> ?_,hI.bS.trans (h':=H j) (Nat.le_trans dI (hd.d9 (Nat.zero_le _) (Nat.le_of_lt hlt))) ⟨hEl,fun b hb=> ?_,fun g hg hk=> ?_,g3.size⟩,
    Au (B:=B) hN hdst hI.tm hEl (fun _=> ?_),fun p z n hp=> ?_,fun p q z z' hp hq=> ?_,by rw [put_defers];exact hI.df,by rw [jr];exact hI.sz,hI.b0⟩⟩
   ·rcases Nat.lt_trichotomy i j with h|h|h
    ·have:=hI.uf i h hb;simp [this]
    ·simp [h]
    ·exact absurd hb (c3 i h hi)
   ·rw [oH β' (by omega)]
    rcases hN.hi β' c1 hb (c4 hb).1 lU (.inl (c4 hb)) with h|⟨_,h⟩
    ·exact h
    ·exact absurd (c4 hb) (Lx h)
   ·rw [oH i (by omega)]
    exact hI.Aq i (by omega) h3 h4
   ·rcases gI b hb with h|⟨h,F9⟩
    ·have:=Sq b h;omega
    ·obtain ⟨rV,i,i1,i2,Sv,i3,i4,i5⟩:=hxi b h F9
     have ane:β'<i:=by
      rcases Nat.lt_trichotomy β' i with h|h|h
      ·exact h
      ·exact absurd (c4 (by omega)) (Lx (h▸Sv))
      ·have:=hd.d9 (i:=i+1) (j:=β') (by omega) c2
       omega
     refine ⟨rV,⟨i,ane,i2,Sv,i3,i4,i5.mono (Vr.mono hEl (Nat.le_refl _)) ⟨h,by omega⟩ (hkX b h F9)⟩,fun b' hb' e=> ?_⟩
     rw [hEl.ρ b h] at e
     rcases gI b' hb' with h'|⟨h',_⟩
     ·rw [hEr.ρ b' h'] at e
      exact absurd e (LJ b b' h F9 h')
     ·rw [hEl.ρ b' h'] at e
      exact hxu b h F9 b' h' e
   ·have hjq:j<q:=hb j hlt hbj (by simp)
    rcases gI b hbS with h|⟨h,hn⟩
    ·rw [hch b h]
     exact (g1.bl b h).mono (Vr.into hEr fun b hb=>Nat.lt_of_lt_of_le (kE b hb) (hd.d9 (by omega) hq)) h rfl
    ·obtain ⟨i,i1,i2,i0,i3,i4,_⟩:=LK b h hn β' c2 rU
     obtain ⟨i',j1,j2,j0,j3,j4,j5⟩:=LK b h hn q hq hbn
     rw [Sr b i i1 i2 i3 i4]
     have hii:i=i':=am8 hd (by omega) (by omega) i0 j0 i3 j3
     rw [hii];exact j5
   ·rcases gI b hb with h|⟨h,_⟩
    ·rcases g3.new b h with h|⟨h1,_⟩
     ·rcases hI.nm b h.1 with h|⟨i,h5,h6,h7⟩
      ·exact .inl h
      ·exact .inr ⟨i,h5,by simp [h6],h7⟩
     ·exact .inr ⟨j,hlt,by simp,lU,h1,kE b h⟩
    ·rcases hI.nm b h with h|⟨i,h5,h6,h7⟩
     ·exact .inl h
     ·exact .inr ⟨i,h5,by simp [h6],h7⟩
   ·rcases gI b hb with h|⟨h,_⟩
    ·rcases g3.new b h with h|⟨h1,h2⟩
     ·exact .inl h.1
     ·rw [hEr.ρ b h]
      exact .inr ⟨h1,h2.imp id fun ⟨b0,h3,h4,h5⟩=>⟨b0,h3.1,Nat.le_trans LG h4,h5⟩⟩
    ·exact .inl h
   ·exact g3.keep g hg fun b hb hf=>hk b hb.1 (Nat.le_trans LG hf)
   ·rw [hsv]
    exact g2.mono (Vr.into hEr kE)
   ·rw [vX] at hp
    obtain ⟨q1,⟨cells,e,q2,q3⟩,q4⟩:=hI.vr p z n hp
    have hsz:γ p<w.heap.size:=(Array.getElem?_eq_some_iff.1 q2).1
    refine ⟨q1,⟨cells,e,by rw [g3.keep _ hsz fun b hb _=>q4 b hb.1];exact q2,q3.mono (Vr.mono hEl (Nat.le_refl _))⟩,fun b hb=> ?_⟩
    rcases gI b hb with h|⟨h,_⟩
    ·rw [hEr.ρ b h]
     rcases g3.new b h with hb|⟨_,hb|⟨b0,hb0,_,hb⟩⟩
     ·rw [g3.ext.ρ b hb];exact q4 b hb.1
     ·omega
     ·rw [hb];exact q4 b0 hb0.1
    ·rw [hEl.ρ b h];exact q4 b h
   ·rw [vX] at hp hq;exact hI.inj p q z z' hp hq
  ·
   have anf:fl=(H j).n:=by
    rcases hfl with e|⟨_,e⟩
    ·exact e
    ·exact absurd ⟨lU,so,hso,e⟩ hbj
   subst anf
   by_cases hjb:j<β
   case neg=>
    have hβ:=hI.kD (by omega)
    have hne:β≠j:=fun e=>hbj (e▸hβ.1)
    have Ga:rT sl j:=by
     rcases hN.lo β (by omega) hβ.1.1 lU (.inl hβ.1) with h|⟨_,h⟩
     ·rw [hβ.2] at h;cases h
     ·exact h
    obtain ⟨x0,hx0,Sw⟩:=Ga
    have Ga:rT sl j:=⟨x0,hx0,Sw⟩
    rw [hso] at hx0
    cases hx0
    obtain ⟨x',Sy,hm⟩:=hd.oG j so o hso ho Sw
    refine (hm (Vr V (H j).n) γ w a (hI.tok hd hN (.refl _)) (fun h=>absurd h.2 (Nat.lt_irrefl _))).mono fun v w' hh=> ?_
    have Sz:∀ i,β<=i->i<sl.length->rR (kd i)->(D i||i==j)=false\/rT sl i:=fun i h1 h3 h4=>by
     by_cases e:i=j
     ·subst e;exact .inr Ga
     ·rw [oH i e];exact hI.Aq i h1 h3 h4
    have SA:β<sl.length->Bar cx sl kd β/\(D β||β==j)=false:=fun hb=>⟨(hI.kD hb).1,by rw [oH β hne];exact (hI.kD hb).2⟩
    rcases hh with ⟨rfl,hx⟩|⟨ob,g,e,rfl,rV,hn',hB,hx⟩
    ·refine ⟨V,γ,β,⟨hI.bm,fun i hi hb=>by have:=hI.uf i hi hb;simp [this],SA,Sz,hI.mr,hI.nw,hI.oG,fun q hq hb=>hI.bq q hq fun i hi hbi iB=>hb i hi hbi (by simp [iB]),fun b hb=> ?_,hI.bS,
      Au (B:=B) hN hdst hI.tm (.refl V) (fun _=> ?_),fun p x n hp=> ?_,fun p q x y hp hq=> ?_,by rw [put_defers];exact hI.df,by rw [jr];exact hI.sz,hI.b0⟩⟩
     ·rcases hI.nm b hb with h|⟨i,h5,h6,h7⟩
      ·exact .inl h
      ·exact .inr ⟨i,h5,by simp [h6],h7⟩
     ·rw [Sy];exact hx.mono (Vr.mono (.refl V) hn1)
     ·rw [vX] at hp;exact hI.vr p x n hp
     ·rw [vX] at hp hq;exact hI.inj p q x y hp hq
    ·have CQ:¬ V.S (H j).n:=fun hb=>by
      rcases hI.nm _ hb with h|⟨i,h5,h6,h7,h8,h9⟩
      ·have:=hd.d9 (i:=0) (j:=j) (Nat.zero_le _) (Nat.le_of_lt hlt)
       omega
      ·rcases Nat.lt_trichotomy i j with h|h|h
       ·have:=hd.d9 (i:=i+1) (j:=j) h (Nat.le_of_lt hlt)
        omega
       ·rw [h,hj] at h6;cases h6
       ·have:=hd.d9 (i:=j+1) (j:=i) h (by omega)
        omega
     have hE:=vg (b:=(H j).n) (g:=w.heap.size) (s:=g) (e:=e) CQ
     have hE2:Ext (bL (Vr V (H j).n) (H j).n w.heap.size g e) (Vr (bL V (H j).n w.heap.size g e) (H (j+1)).n):=⟨fun b hb=>by
      rcases hb with hb|hb
      ·exact ⟨.inl hb.1,by have:=hb.2;omega⟩
      ·exact ⟨.inr hb,by omega⟩,fun _ _=>rfl,fun _ _=>rfl,fun _ _=>rfl⟩
     have Av:(bL V (H j).n w.heap.size g e).ρ (H j).n=w.heap.size:=gF
     have gI:∀ b,(bL V (H j).n w.heap.size g e).S b->V.S b\/b=(H j).n:=fun b hb=>hb
     have hSn:(bL V (H j).n w.heap.size g e).S (H j).n:= .inr rfl
     generalize bL V (H j).n w.heap.size g e=Vm at hE hE2 Av gI hSn
     have ayD:(H β).n<=(H j).n:=hd.d9 (by omega) (Nat.le_of_lt hlt)
     have hlow:∀ b,Vm.S b->b<(H β).n->V.S b:=fun b hb hn=>by
      rcases gI b hb with h|h
      ·exact h
      ·omega
     have hold:∀ b,V.S b->(w.alloc ob).heap[V.ρ b]? =w.heap[V.ρ b]? :=fun b hb=>pV w ob (hI.nw b hb).2
     have hnw:∀ b,Vm.S b->B.w0.heap.size<=Vm.ρ b/\Vm.ρ b<(w.alloc ob).heap.size:=fun b hb=>by
      rw [pW]
      rcases gI b hb with h|h
      ·rw [hE.ρ b h];have:=hI.nw b h;omega
      ·subst h;rw [Av];have:=hI.mr.sz;omega
     have hmr:MR B.w0 (Vr Vm (H β).n) (H β) (w.alloc ob):=by
      refine ⟨fun b hb=>⟨hb.2,(hI.mr.nb b ⟨hlow b hb.1 hb.2,hb.2⟩).2⟩,fun b hb=> ?_,fun b b' hb hb' h1 h2 e=> ?_,fun b hb=>hnw b hb.1,fun k hk=> ?_,by rw [pW];have:=hI.mr.sz;omega,hI.mr.os,hI.mr.tape,hI.mr.output,hI.mr.ar⟩
      ·have hv:=hlow b hb.1 hb.2
       exact (hI.mr.bl b ⟨hv,hb.2⟩).mono (Vr.mono hE (Nat.le_refl _)) ⟨hv,hb.2⟩ (hold b hv)
      ·have hv:=hlow b hb.1 hb.2
       have hv':=hlow b' hb'.1 hb'.2
       have e:Vm.ρ b=Vm.ρ b':=e
       rw [hE.ρ b hv,hE.ρ b' hv'] at e
       exact hI.mr.inj b b' ⟨hv,hb.2⟩ ⟨hv',hb'.2⟩ h1 h2 e
      ·rw [pV w ob (by have:=hI.mr.sz;omega)];exact hI.mr.old k hk
     refine ⟨Vm,γ,β,⟨hI.bm,fun i hi hb=>by have:=hI.uf i hi hb;simp [this],SA,Sz,hmr,hnw,fun b hb hn=> ?_,fun q hq hb b hbS hbn rU=> ?_,fun b hb=> ?_,hI.bS.trans (h':=H j) (Nat.le_trans dI (hd.d9 (Nat.zero_le _) (Nat.le_of_lt hlt))) ⟨hE,fun b hb=> ?_,fun k hk _=>pV w ob hk,by rw [pW];omega⟩,
      Au (B:=B) hN hdst hI.tm hE (fun _=> ?_),fun p x n hp=> ?_,fun p q x y hp hq=> ?_,by rw [put_defers];exact hI.df,by rw [jr];exact hI.sz,hI.b0⟩⟩
     ·rcases gI b hb with h|h
      ·obtain ⟨m1,⟨i,m2,m3,mk,m4,m5,m6⟩,m7⟩:=hI.oG b h hn
       refine ⟨m1,⟨i,m2,m3,mk,m4,m5,m6.mono (Vr.mono hE (Nat.le_refl _)) ⟨h,by omega⟩ (hold b h)⟩,fun b' hb' e=> ?_⟩
       rw [hE.ρ b h] at e
       rcases gI b' hb' with h'|h'
       ·rw [hE.ρ b' h'] at e;exact m7 b' h' e
       ·subst h'
        rw [Av] at e
        have:=(hI.nw b h).2
        omega
      ·subst h
       refine ⟨rV,⟨j,by omega,hlt,Ga,rfl,hn',hB.mono hE2 (.inr rfl) rfl⟩,fun b' hb' e=> ?_⟩
       rw [Av] at e
       rcases gI b' hb' with h'|h'
       ·rw [hE.ρ b' h'] at e
        have:=(hI.nw b' h').2
        omega
       ·exact h'
     ·have hv:=hlow b hbS rU
      exact (hI.bq q hq (fun i hi hbi iB=>hb i hi hbi (by simp [iB])) b hv hbn rU).mono (Vr.mono hE (Nat.le_refl _)) ⟨hv,hbn⟩ (hold b hv)
     ·rcases gI b hb with h|h
      ·rcases hI.nm b h with h|⟨i,h5,h6,h7⟩
       ·exact .inl h
       ·exact .inr ⟨i,h5,by simp [h6],h7⟩
      ·subst h
       exact .inr ⟨j,hlt,by simp,lU,Nat.le_refl _,by omega⟩
     ·rcases gI b hb with h|h
      ·exact .inl h
      ·subst h;rw [Av]
       exact .inr ⟨Nat.le_refl _,.inl (Nat.le_refl _)⟩
     ·rw [Sy];exact hx.mono hE2
     ·rw [vX] at hp
      obtain ⟨q1,⟨cells,e,q2,q3⟩,q4⟩:=hI.vr p x n hp
      have hsz:γ p<w.heap.size:=(Array.getElem?_eq_some_iff.1 q2).1
      refine ⟨q1,⟨cells,e,by rw [pV w ob hsz];exact q2,q3.mono (Vr.mono hE (Nat.le_refl _))⟩,fun b hb=> ?_⟩
      rcases gI b hb with h|h
      ·rw [hE.ρ b h];exact q4 b h
      ·subst h;rw [Av];omega
     ·rw [vX] at hp hq;exact hI.inj p q x y hp hq
   have SB:∀ q,j<=q->q<β->¬ Bar cx sl kd q:=fun q h1 h2 hb=>by
    have hDq:=hI.uf q h2 hb
    have hne:q≠j:=fun e=>hbj (e▸hb)
    rcases hN.hi q (by omega) (by have:=hI.bm;omega) hb.1 lU (.inl hb) with h|⟨h,_⟩
    ·rw [hDq] at h;cases h
    ·exact hbj h
   have hch:∀ b,b<(H j).n->b<65536->gH (H β) b=gH (H j) b:=hd.chain (Nat.le_of_lt hjb) hI.bm SB
   have Gb:∀ b,b<(H (j+1)).n->b<65536->gH (H β) b=gH (H (j+1)) b:=hd.chain hjb hI.bm fun q h1 h2=>SB q (by omega) h2
   have ani:∀ i,i<sl.length->Bar cx sl kd i->D i=true->i<j:=fun i hi hb iB=>by
    rcases Nat.lt_trichotomy i j with h|h|h
    ·exact h
    ·exact absurd (h▸hb) hbj
    ·rcases hN.hi i h hi hb.1 lU (.inl hb) with h|⟨h,_⟩
     ·rw [iB] at h;cases h
     ·exact absurd h hbj
   have LM:(H j).n<=(H β).n:=hd.d9 (Nat.le_of_lt hjb) hI.bm
   have rV:∀ b,V.S b->b<(H j).n->b<65536:=fun b hb hn=>(hI.mr.nb b ⟨hb,by omega⟩).2
   have anj:MR B.w0 (Vr V (H j).n) (H j) w:=⟨fun b hb=>⟨hb.2,rV b hb.1 hb.2⟩,fun b hb=>by
     rw [<-hch b hb.2 (rV b hb.1 hb.2)];exact hI.bq j (Nat.le_of_lt hlt) ani b hb.1 hb.2 (Nat.lt_of_lt_of_le hb.2 LM),fun b b' hb hb' h1 h2=>hI.mr.inj b b' ⟨hb.1,Nat.lt_of_lt_of_le hb.2 LM⟩ ⟨hb'.1,Nat.lt_of_lt_of_le hb'.2 LM⟩ (by rw [hch b hb.2 (rV b hb.1 hb.2)];exact h1) (by rw [hch b' hb'.2 (rV b' hb'.1 hb'.2)];exact h2),fun b hb=>hI.nw b hb.1,hI.mr.old,hI.mr.sz,hI.mr.os,hI.mr.tape,hI.mr.output,hI.mr.ar⟩
   refine (he B.w0 (Vr V (H j).n) γ w a anj (hI.tok hd hN (.refl _))).mono fun v w' ⟨V',g1,g2,g3⟩=> ?_
   have hkeep:∀ g,g<w.heap.size->w'.heap[g]? =w.heap[g]? :=fun g hg=>g3.keep g hg fun b hb hf=>absurd hb.2 (by omega)
   have kE:∀ b,V'.S b->b<(H (j+1)).n:=fun b hb=>(g1.nb b hb).1
   have hboth:∀ b,V.S b->V'.S b->b<(H j).n:=fun b hb hb'=>by
    rcases hI.nm b hb with h|⟨i,h5,h6,h7,h8,h9⟩
    ·exact Nat.lt_of_lt_of_le h (hd.d9 (Nat.zero_le _) (Nat.le_of_lt hlt))
    ·rcases Nat.lt_trichotomy i j with h|h|h
     ·exact Nat.lt_of_lt_of_le h9 (hd.d9 (by omega) (Nat.le_of_lt hlt))
     ·rw [h,hj] at h6;cases h6
     ·have:=kE b hb'
      have:=hd.d9 (i:=j+1) (j:=i) (by omega) (by omega)
      omega
   have hnew:∀ b,V'.S b->¬ b<(H j).n->w.heap.size<=V'.ρ b/\(H j).n<=b:=fun b hb hn=>by
    rcases g3.new b hb with h|⟨h1,h2|⟨b0,h3,h4,_⟩⟩
    ·exact absurd h.2 hn
    ·exact ⟨h2,h1⟩
    ·exact absurd h3.2 (by omega)
   have hold:∀ b,V'.S b->b<(H j).n->V.S b:=fun b hb hn=>by
    rcases g3.new b hb with h|⟨h1,_⟩
    ·exact h.1
    ·omega
   have LH:∀ b,V.S b->V'.S b->V'.ρ b=V.ρ b/\V'.σ b=V.σ b/\V'.ε b=V.ε b:=fun b hb hb'=>by
    have hr:(Vr V (H j).n).S b:=⟨hb,hboth b hb hb'⟩
    exact ⟨g3.ext.ρ b hr,g3.ext.σ b hr,g3.ext.ε b hr⟩
   have hEl:=Sl V V'
   have hEr:=Sm LH
   generalize hVm:Dj V V'=Vm at hEl hEr
   have oI:∀ b,Vm.S b->V.S b\/(¬ V.S b/\V'.S b/\¬ b<(H j).n):=fun b hb=>by
    by_cases hv:V.S b
    ·exact .inl hv
    ·have hb':V.S b\/V'.S b:=by rw [<-hVm] at hb;exact hb
     rcases hb' with h|h
     ·exact absurd h hv
     ·exact .inr ⟨hv,h,fun hn=>hv (hold b h hn)⟩
   have hnw:∀ b,Vm.S b->B.w0.heap.size<=Vm.ρ b/\Vm.ρ b<w'.heap.size:=fun b hb=>by
    rcases oI b hb with h|⟨_,h,_⟩
    ·rw [hEl.ρ b h]
     exact ⟨(hI.nw b h).1,Nat.lt_of_lt_of_le (hI.nw b h).2 g3.size⟩
    ·rw [hEr.ρ b h];exact g1.nw b h
   have hmr:MR B.w0 (Vr Vm (H β).n) (H β) w':=by
    refine ⟨fun b hb=>⟨hb.2,?_⟩,fun b hb=> ?_,fun b b' hb hb' h1 h2=> ?_,fun b hb=>hnw b hb.1,g1.old,g1.sz,g1.os,g1.tape,g1.output,g1.ar⟩
    ·rcases oI b hb.1 with h|⟨_,h,_⟩
     ·exact (hI.mr.nb b ⟨h,hb.2⟩).2
     ·exact (g1.nb b h).2
    ·rcases oI b hb.1 with h|⟨_,h,_⟩
     ·exact (hI.mr.bl b ⟨h,hb.2⟩).mono (Vr.mono hEl (Nat.le_refl _)) ⟨h,hb.2⟩ (hkeep _ (hI.nw b h).2)
     ·rw [Gb b (kE b h) (g1.nb b h).2]
      exact (g1.bl b h).mono (Vr.into hEr fun b hb=>Nat.lt_of_lt_of_le (kE b hb) (hd.d9 (by omega) hI.bm)) h rfl
    ·show Vm.ρ b=Vm.ρ b'->b=b'
     rcases oI b hb.1 with h|⟨hn,h,hnn⟩
     ·rcases oI b' hb'.1 with h'|⟨hn',h',Gc⟩
      ·rw [hEl.ρ b h,hEl.ρ b' h'];exact hI.mr.inj b b' ⟨h,hb.2⟩ ⟨h',hb'.2⟩ h1 h2
      ·rw [hEl.ρ b h,hEr.ρ b' h']
       have:=(hI.nw b h).2
       have:=(hnew b' h' Gc).1
       intro e;omega
     ·rcases oI b' hb'.1 with h'|⟨hn',h',Gc⟩
      ·rw [hEr.ρ b h,hEl.ρ b' h']
       have:=(hI.nw b' h').2
       have:=(hnew b h hnn).1
       intro e;omega
      ·rw [hEr.ρ b h,hEr.ρ b' h']
       rw [Gb b (kE b h) (g1.nb b h).2] at h1
       rw [Gb b' (kE b' h') (g1.nb b' h').2] at h2
       exact g1.inj b b' h h' h1 h2
   have LG:B.fl=(H j).fl:=by rw [dB,hd.fl j (Nat.le_of_lt hlt)]
   refine ⟨Vm,γ,β,⟨hI.bm,fun i hi hb=>by have:=hI.uf i hi hb;simp [this],fun hb=>⟨(hI.kD hb).1,?_⟩,fun i h1 h3 h4=> ?_,hmr,hnw,fun b hb hn=> ?_,fun q hq hb b hbS hbn rU=> ?_,fun b hb=> ?_,?_,
    Au (B:=B) hN hdst hI.tm hEl (fun _=> ?_),fun p z n hp=> ?_,fun p q z z' hp hq=> ?_,by rw [put_defers];exact hI.df,by rw [jr];exact hI.sz,hI.b0⟩⟩
   ·rw [oH β (by omega)];exact (hI.kD hb).2
   ·rw [oH i (by omega)];exact hI.Aq i h1 h3 h4
   ·rcases oI b hb with h|⟨_,h,_⟩
    ·obtain ⟨m1,⟨i,m2,m3,mk,m4,m5,m6⟩,m7⟩:=hI.oG b h hn
     refine ⟨m1,⟨i,m2,m3,mk,m4,m5,m6.mono (Vr.mono hEl (Nat.le_refl _)) ⟨h,by omega⟩ (hkeep _ (hI.nw b h).2)⟩,fun b' hb' e=> ?_⟩
     rw [hEl.ρ b h] at e
     rcases oI b' hb' with h'|⟨_,h',Gc⟩
     ·rw [hEl.ρ b' h'] at e;exact m7 b' h' e
     ·rw [hEr.ρ b' h'] at e
      have:=(hI.nw b h).2
      have:=(hnew b' h' Gc).1
      omega
    ·have:=kE b h
     have:=hd.d9 (i:=j+1) (j:=β) hjb hI.bm
     omega
   ·rcases oI b hbS with h|⟨_,h,hnn⟩
    ·exact (hI.bq q hq (fun i hi hbi iB=>hb i hi hbi (by simp [iB])) b h hbn rU).mono (Vr.mono hEl (Nat.le_refl _)) ⟨h,hbn⟩ (hkeep _ (hI.nw b h).2)
    ·have hjq:j+1<=q:=by
      rcases Nat.lt_or_ge j q with h'|h'
      ·exact h'
      ·have:=hd.d9 (i:=q) (j:=j) h' (Nat.le_of_lt hlt);omega
     rw [Gb b (kE b h) (g1.nb b h).2]
     exact (g1.bl b h).mono (Vr.into hEr fun b hb=>Nat.lt_of_lt_of_le (kE b hb) (hd.d9 hjq hq)) h rfl
   ·rcases oI b hb with h|⟨_,h,hnn⟩
    ·rcases hI.nm b h with h|⟨i,h5,h6,h7⟩
     ·exact .inl h
     ·exact .inr ⟨i,h5,by simp [h6],h7⟩
    ·exact .inr ⟨j,hlt,by simp,lU,by omega,kE b h⟩
   ·refine hI.bS.trans (h':=H j) (Nat.le_trans dI (hd.d9 (Nat.zero_le _) (Nat.le_of_lt hlt))) ⟨hEl,fun b hb=> ?_,fun g hg _=>hkeep g hg,g3.size⟩
    rcases oI b hb with h|⟨_,h,hnn⟩
    ·exact .inl h
    ·rw [hEr.ρ b h]
     exact .inr ⟨(hnew b h hnn).2,.inl (hnew b h hnn).1⟩
   ·rw [hsv]
    exact g2.mono (Vr.into hEr kE)
   ·rw [vX] at hp
    obtain ⟨q1,⟨cells,e,q2,q3⟩,q4⟩:=hI.vr p z n hp
    have hsz:γ p<w.heap.size:=(Array.getElem?_eq_some_iff.1 q2).1
    refine ⟨q1,⟨cells,e,by rw [hkeep _ hsz];exact q2,q3.mono (Vr.mono hEl (Nat.le_refl _))⟩,fun b hb=> ?_⟩
    rcases oI b hb with h|⟨_,h,hnn⟩
    ·rw [hEl.ρ b h];exact q4 b h
    ·rw [hEr.ρ b h];have:=(hnew b h hnn).1;omega
   ·rw [vX] at hp hq;exact hI.inj p q z z' hp hq
end
end
end Go.M
namespace Go.M
open Go
open Go.Eng (SOp SOper SCode stripOper stripOps stripCode)
noncomputable section
variable [aY]
section
variable {P:Program} {cx:Cx} {ops:Array Oper} {nt:Nat}
theorem aM.kd {h h':Hp} {kd:Kd} {ol:OL} (hk:xW cx h ol kd) (hfn:h.fl<=h.n) (hl:aM (vO h kd) h h'):aM h.fl h h':=(Lf hk hfn hl).1
theorem SE (hcl:gu P cx.cl) (al:List (Nat×Nat)):∀ (lo:List Oper) {sl:List SOper} {en:En} {fr:FX} {l:Loc} {h:Hp} {k:Kc} {r:List Prop} {kn:En->FR},stripOps P ops true lo=some sl->(sl.all fun o=>okD nt cx.PV true o)=true->
  (xR cx kn (Fp al cx.PV cx.FL sl) en).f fr l h k=some r->Wf cx en l->h.fl<=h.n->∃ (en':En) (l':Loc) (h':Hp) (kd:Nat->Kd) (sv:Nat->SV) (var:Nat->Option (Nat×X)) (S:Nat->dP) (H:Nat->Hp),(kn en').f fr l' h' k=some r/\Wf cx en' l'/\aM h.fl h h'/\H 0=h/\H sl.length=h'/\S 0=aX cx en fr l/\S sl.length=aX cx en' fr l'/\
   (∀ (j:Nat) so,sl[j]? =some so->∃ o,lo[j]? =some o/\stripOper P ops true o=some so)/\
   (∀ (j:Nat) so,sl[j]? =some so->(S (j+1)).le ((S j).upd so.dst (sv j) (var j)))/\(∀ j,j<sl.length->aM (vO (H j) (kd j)) (H j) (H (j+1))/\aM (H (j+1)).fl (H (j+1)) h')/\(∀ j,j<=sl.length->(H j).fl<=(H j).n/\(H j).fl=h.fl)/\
   (∀ (j:Nat) so,sl[j]? =some so->xW cx (H j) ⟨so.dst,so.op,so.guard,kV cx.FL so,some (ni al cx.PV so.op)⟩ (kd j))/\
   (∀ (j:Nat) so,sl[j]? =some so->FH ⟨so.dst,so.op,so.guard,kV cx.FL so,some (ni al cx.PV so.op)⟩ (kd j) (sv j))/\
   (∀ (j:Nat) so o,sl[j]? =some so->lo[j]? =some o->((∀ p ∈ (H (j+1)).fa,p)->Af P ops o (looks so) (S j) (H j) (H (j+1)) (kd j) (sv j) (var j))/\(p9 so.op=true->FM P ops o (looks so) (S j) (H j) (H (j+1)) (sv j)))
 |[],sl,en,fr,l,h,k,r,kn,hs,_,e,hw,hfn=>by
  simp only [stripOps,Option.some.injEq] at hs
  subst hs
  exact ⟨en,l,h,fun _=> .pure [],fun _=> .val xU,fun _=>none,fun _=>aX cx en fr l,fun _=>h,e,hw,.refl _ _,rfl,rfl,rfl,rfl,fun j so hj=>by simp at hj,fun j so hj=>by simp at hj,fun j hj=>by simp at hj,fun j _=>⟨hfn,rfl⟩,fun j so hj=>by simp at hj,fun j so hj=>by simp at hj,fun j so o hj=>by simp at hj⟩
 |o::lo,sl,en,fr,l,h,k,r,kn,hs,hd,e,hw,hfn=>by
  obtain ⟨so,sl',rfl,hso,hsl⟩:=yO hs
  simp only [List.all_cons,Bool.and_eq_true] at hd
  have e1:(plan so.op cx ⟨so.dst,so.op,so.guard,kV cx.FL so,some (ni al cx.PV so.op)⟩ en (xR cx kn (Fp al cx.PV cx.FL sl'))).f fr l h k=some r:=e
  have hL:=R3 (cx:=cx) (bF:=kV cx.FL so) (vp:=some (ni al cx.PV so.op)) hso hd.1
  obtain ⟨R5,l1,h1,LP,sv0,SF,g1,g2,g3,g4,g5,gS,g6,gM⟩:=amK (ol:=⟨so.dst,so.op,so.guard,kV cx.FL so,some (ni al cx.PV so.op)⟩) hcl hL hw hfn e1
  have g4':=(Lf g5 hfn g4).1
  obtain ⟨dQ,l2,h2,kd,sv,var,S,H,q1,q2,q3,q4,q5,q6,q7,q8,q9,Gd,Gf,LQ,qS,Gg⟩:=SE hcl al lo hsl hd.2 g1 g2 (g4'.Db hfn)
  refine ⟨dQ,l2,h2,fun j=>match j with|0=>LP|j+1=>kd j,fun j=>match j with|0=>sv0|j+1=>sv j,fun j=>match j with|0=>SF|j+1=>var j,fun j=>match j with|0=>aX cx en fr l|j+1=>S j,fun j=>match j with|0=>h|j+1=>H j,
   q1,q2,g4'.tr q3,rfl,q5,rfl,q7,fun j iA hj=> ?_,fun j iA hj=> ?_,fun j hj=> ?_,fun j hj=> ?_,fun j iA hj=> ?_,fun j iA hj=> ?_,fun j iA o' hj ho=> ?_⟩
  ·cases j with
   |zero=>simp at hj;subst hj;exact ⟨o,rfl,hso⟩
   |succ j=>simpa using q8 j iA (by simpa using hj)
  ·cases j with
   |zero=>
    simp at hj;subst hj
    show (S 0).le _
    rw [q6];exact g3
   |succ j=>exact q9 j iA (by simpa using hj)
  ·cases j with
   |zero=>
    show aM (vO h LP) h (H 0)/\aM (H 0).fl (H 0) h2
    rw [q4];exact ⟨g4,q3⟩
   |succ j=>exact Gd j (by simpa using hj)
  ·cases j with
   |zero=>exact ⟨hfn,rfl⟩
   |succ j=>
    obtain ⟨a1,a2⟩:=Gf j (by simpa using hj)
    exact ⟨a1,a2.trans g4'.fe⟩
  ·cases j with
   |zero=>simp at hj;subst hj;exact g5
   |succ j=>exact LQ j iA (by simpa using hj)
  ·cases j with
   |zero=>simp at hj;subst hj;exact gS
   |succ j=>exact qS j iA (by simpa using hj)
  ·cases j with
   |zero=>
    simp at hj ho;subst hj;subst ho
    refine ⟨fun hf=> ?_,fun hm=> ?_⟩
    ·have hf:∀ p ∈ (H 0).fa,p:=hf
     show Af P ops o (looks so) (aX cx en fr l) h (H 0) LP sv0 SF
     rw [q4] at hf ⊢
     exact g6 hf
    ·show FM P ops o (looks so) (aX cx en fr l) h (H 0) sv0
     rw [q4]
     exact gM hm
   |succ j=>exact Gg j iA o' (by simpa using hj) (by simpa using ho)
theorem yT {draw:Bool}:∀ (l:List Oper) (sl:List SOper),stripOps P ops draw l=some sl->l.length=sl.length/\∀ (j:Nat) (o:Oper),l[j]? =some o->∃ so,sl[j]? =some so/\stripOper P ops draw o=some so
 |[],sl,hs=>by
  simp only [stripOps,Option.some.injEq] at hs
  subst hs
  exact ⟨rfl,fun j o h=>by simp at h⟩
 |o::l,sl,hs=>by
  obtain ⟨so,sl',rfl,h1,h2⟩:=yO hs
  obtain ⟨h3,h4⟩:=yT l sl' h2
  refine ⟨by simp [h3],fun j o' h=> ?_⟩
  cases j with
  |zero=>simp at h;subst h;exact ⟨so,rfl,h1⟩
  |succ j=>simpa using h4 j o' (by simpa using h)
theorem Iq {o:Oper} {so:SOper} (hs:stripOper P ops true o=some so):
  so.after=o.after.toList.filterMap fun e=>match e.ground with| .textOnly _=>none| .gcOnly _=>none|_=>some e.on:=by
 unfold stripOper at hs
 split at hs
 ·split at hs
  ·cases hs;rfl
  ·split at hs
   ·cases hs;rfl
   ·cases hs
 ·cases hs
theorem Bn {o:Oper} {so:SOper} (hs:stripOper P ops true o=some so) (D:Nat->Prop):
  (∀ e ∈ o.after,Region.binds .any e=true->D e.on)↔∀ i ∈ so.after,D i:=by
 rw [Iq hs]
 constructor
 ·intro h i hi
  rw [List.mem_filterMap] at hi
  obtain ⟨e,he,h1⟩:=hi
  have hem:e ∈ o.after:=by simpa using he
  have:Region.binds .any e=true/\e.on=i:=by
   unfold Region.binds
   split at h1<;>simp_all
  rw [<-this.2];exact h e hem this.1
 ·intro h e he hb
  refine h e.on ?_
  rw [List.mem_filterMap]
  refine ⟨e,by simpa using he,?_⟩
  unfold Region.binds at hb
  split at hb<;>simp_all
theorem Bp {D:Nat->Bool} {j:Nat}:∀ (l:List Nat),j ∉ l->l.countP (fun i=> !(D i||i==j))=l.countP (fun i=> !(D i))
 |[],_=>rfl
 |x::l,h=>by
  simp only [List.mem_cons,not_or] at h
  have e:(D x||x==j)=D x:=by simp [Ne.symm h.1]
  rw [List.countP_cons,List.countP_cons,Bp l h.2,e]
theorem Bq {D:Nat->Bool} {j:Nat} (hj:D j=false):∀ (l:List Nat),l.Nodup->j ∈ l->l.countP (fun i=> !(D i||i==j))+1=l.countP (fun i=> !(D i))
 |[],_,h=>by simp at h
 |x::l,hn,h=>by
  rw [List.nodup_cons] at hn
  rcases List.mem_cons.1 h with rfl|h
  ·rw [List.countP_cons,List.countP_cons,Bp l hn.1]
   simp [hj]
  ·have hx:x≠j:=fun e=>hn.1 (e▸h)
   have e:(D x||x==j)=D x:=by simp [hx]
   have:=Bq hj l hn.2 h
   rw [List.countP_cons,List.countP_cons,e]
   omega
def dm (listed:Array Bool):Nat->Bool:=fun i=>listed.getD i false
theorem Iu {listed:Array Bool} {j:Nat} (hj:j<listed.size):dm (listed.setIfInBounds j true)=fun i=>dm listed i||i==j:=by
 funext i
 unfold dm
 by_cases e:i=j
 ·subst e;simp [hj]
 ·rw [getD_set_ne false (Ne.symm e)]
  have:(i==j)=false:=by simp [e]
  rw [this,Bool.or_false]
theorem wP {listed:Array Bool} {j:Nat} (hj:j<listed.size):listed.getD j true=listed.getD j false:=by
 simp [hj]
section
variable {sl:List SOper} {kd:Nat->Kd} {sv:Nat->SV} {var:Nat->Option (Nat×X)} {S:Nat->dP} {H:Nat->Hp}
theorem Iw (hs:stripOps P ops true ops.toList=some sl) (hd:Dat P cx ops sl nt kd sv var S H) {B:Bs} (dR:B.nt=nt) (dB:B.fl=(H 0).fl) (dI:B.h.n<=(H 0).n) {K:Exit->Act->World->Prop}
  (hend:∀ D a w V γ β,(∀ i,i<sl.length->D i=true)->Inv cx sl kd sv var S H B D a w V γ β->K .normal a w):
  ∀ (fuel:Nat) (listed:Array Bool) (a:Act) (w:World),listed.size=ops.size->Closed sl (dm listed)->(List.range ops.size).countP (fun i=> !(dm listed i))<=fuel->
   (∃ V γ β,Inv cx sl kd sv var S H B (dm listed) a w V γ β)->wpAny P .any ops K fuel listed a w:=by
 obtain ⟨hl,hget⟩:=yT ops.toList sl hs
 have hl:ops.size=sl.length:=by simpa using hl
 have Iy:=(Sj hd.ok).1
 have Iz:∀ (listed:Array Bool) (j:Nat) (o:Oper) (so:SOper),listed.size=ops.size->ops[j]? =some o->sl[j]? =some so->stripOper P ops true o=some so->dm listed j=false->
   (∀ e ∈ so.after,dm listed e=true)->j ∈ Region.ready .any ops listed:=fun listed j o so hsz ho hso h1 hj he=>by
  have hlt:j<ops.size:=(Array.getElem?_eq_some_iff.1 ho).1
  rw [mem_ready]
  refine ⟨by rw [wP (by omega)];exact hj,o,ho,?_⟩
  exact (Bn h1 fun i=>dm listed i=true).2 he
 have hall:∀ (listed:Array Bool),listed.size=ops.size->Region.ready .any ops listed=[]->∀ i,i<ops.size->dm listed i=true:=fun listed hsz hr i=>by
  induction i using Nat.strongRecOn with
  |_ i ih=>
   intro hi
   apply Classical.byContradiction
   intro hne
   have hne':dm listed i=false:=by simpa using hne
   obtain ⟨so,hso,h1⟩:=hget i ops[i] (by simp [hi])
   have:=Iz listed i ops[i] so hsz (by simp [hi]) hso h1 hne' fun e he=>by
    have:=Iy i so hso e he
    exact ih e (by omega) (by omega)
   rw [hr] at this
   simp at this
 intro fuel
 induction fuel with
 |zero=>
  intro listed a w hsz hc hf hI
  have hdone:∀ i,i<ops.size->dm listed i=true:=fun i hi=>by
   have h0:(List.range ops.size).countP (fun i=> !(dm listed i))=0:=by omega
   rw [List.countP_eq_zero] at h0
   have:=h0 i (by simpa using hi)
   simpa using this
  obtain ⟨V,γ,β,hI⟩:=hI
  refine ⟨?_,hend _ a w V γ β (fun i hi=>hdone i (by omega)) hI⟩
  apply List.eq_nil_iff_forall_not_mem.2
  intro j hj
  rw [mem_ready] at hj
  obtain ⟨h1,o,ho,_⟩:=hj
  have hlt:j<ops.size:=(Array.getElem?_eq_some_iff.1 ho).1
  rw [wP (by omega)] at h1
  have:=hdone j hlt
  unfold dm at this
  rw [h1] at this;cases this
 |succ fuel ih=>
  intro listed a w hsz hc hf hI
  obtain ⟨V,γ,β,hI⟩:=hI
  refine ⟨fun hr=>hend _ a w V γ β (fun i hi=>hall listed hsz hr i (by omega)) hI,fun j hj=> ?_⟩
  rw [mem_ready] at hj
  obtain ⟨h1,o,ho,hb⟩:=hj
  have hlt:j<ops.size:=(Array.getElem?_eq_some_iff.1 ho).1
  obtain ⟨so,hso,hs1⟩:=hget j o (by simpa using ho)
  have hjr:=(Bn hs1 fun i=>dm listed i=true).1 hb
  have hj0:dm listed j=false:=by rw [wP (by omega)] at h1;exact h1
  have hN:=hd.next hc hso hj0 hjr
  have hgw:=Ir hd dR dB dI hso ho hs1 hj0 hc hN hI (wpAny P .any ops K fuel (listed.setIfInBounds j true)) K fun v w' ⟨V',γ',β',hI'⟩=>by
   have e:=Iu (listed:=listed) (j:=j) (by omega)
   refine ih _ _ w' (by simp [hsz]) ?_ ?_ ⟨V',γ',β',by rw [e];exact hI'⟩
   ·rw [e]
    intro i o' hi ho' x hx
    simp only [Bool.or_eq_true,beq_iff_eq] at hi
    rcases hi with hi|rfl
    ·simp [hc i o' hi ho' x hx]
    ·rw [hso] at ho';cases ho'
     simp [hjr x hx]
   ·rw [e]
    have:=Bq hj0 (List.range ops.size) List.nodup_range (by simpa using hlt)
    show (List.range ops.size).countP (fun i=> !(dm listed i||i==j))<=fuel
    omega
  unfold wpOp
  rw [ho]
  simp only
  by_cases hwd:Region.wanted o (yielded ops a.tmps)=true
  ·rw [if_pos hwd] at hgw ⊢;exact .inl hgw
  ·rw [if_neg hwd] at hgw ⊢;exact hgw
end
theorem Gh (hcl:gu P cx.cl):Lg P cx nt:=by
 intro ops sl en fr l h k r kn hs SG hok e hw wQ hfn
 obtain ⟨en',l',h',kd,sv,var,S,H,q1,q2,q3,q4,q5,q6,q7,q8,q9,Gd,Gf,LQ,qS,Gg⟩:=SE hcl _ ops.toList hs SG e hw hfn
 refine ⟨en',l',h',q1,q2,q3,fun hfa B a w K dB dI dR hA hK=> ?_⟩
 have hd:Dat P cx ops sl nt kd sv var S H:=by
  refine ⟨fun j so hso=> ?_,fun j so hso=> ?_,hok,q9,fun j hj=>(Gd j hj).1,fun j hj=>(Gf j hj).1,fun j hj=>by rw [(Gf j hj).2,q4],LQ,qS,fun k p off c hk=> ?_,fun j so o hso ho=> ?_,fun j so o hso ho hm=> ?_⟩
  ·obtain ⟨o,h1,h2⟩:=q8 j so hso
   exact ⟨o,by simpa using h1,h2⟩
  ·exact List.all_eq_true.1 SG so (List.mem_iff_getElem?.2 ⟨j,hso⟩)
  ·rw [q6] at hk
   have hk:bU cx en fr l k=some (.ptr p off c):=hk
   exact KS hk (by rw [wQ];rfl)
  ·have hj:j<sl.length:=(List.getElem?_eq_some_iff.1 hso).1
   exact (Gg j so o hso (by simpa using ho)).1 fun p hp=>hfa p ((Gd j hj).2.fa p hp)
  ·exact (Gg j so o hso (by simpa using ho)).2 hm
 obtain ⟨V,γ,hSR⟩:=hA
 have hD0:dm (Array.replicate ops.size false)=fun _=>false:=by
  funext i
  unfold dm
  rcases Nat.lt_or_ge i ops.size with h|h<;>simp [h]
 have hS0:S 0=aX cx en fr l:=q6
 have Dl:∀ b,V.S b->b<(H 0).n:=fun b hb=>by rw [q4];exact (hSR.mr.nb b hb).1
 have LU:∀ n,(H 0).n<=n->Ext V (Vr V n):=fun n hn=>Vr.into (.refl V) fun b hb=>Nat.lt_of_lt_of_le (Dl b hb) hn
 obtain ⟨β,c2,c3,c4⟩:∃ β,β<=sl.length/\(∀ q,q<β->¬ Bar cx sl kd q)/\(β<sl.length->Bar cx sl kd β):=by
  by_cases hex:∃ q,q<sl.length/\Bar cx sl kd q
  ·have least:∀ n,(∃ q,q<=n/\q<sl.length/\Bar cx sl kd q)->∃ q,q<sl.length/\Bar cx sl kd q/\∀ q',q'<q->¬ Bar cx sl kd q':=by
    intro n
    induction n with
    |zero=>rintro ⟨q,h2,h3,h4⟩;exact ⟨q,h3,h4,fun q' h5=>by omega⟩
    |succ n ih=>
     rintro ⟨q,h2,h3,h4⟩
     by_cases hh:∃ q,q<=n/\q<sl.length/\Bar cx sl kd q
     ·exact ih hh
     ·exact ⟨q,h3,h4,fun q' h6 hb=>hh ⟨q',by omega,by omega,hb⟩⟩
   obtain ⟨q,h2,h3⟩:=hex
   obtain ⟨q,d2,d3,d4⟩:=least q ⟨q,Nat.le_refl _,h2,h3⟩
   exact ⟨q,Nat.le_of_lt d2,d4,fun _=>d3⟩
  ·exact ⟨sl.length,Nat.le_refl _,fun q h2 hb=>hex ⟨q,h2,hb⟩,fun h=>absurd h (Nat.lt_irrefl _)⟩
 have hch:∀ b,V.S b->gH (H β) b=gH (H 0) b:=fun b hb=>hd.chain (Nat.zero_le _) c2 (fun q _ h2=>c3 q h2) b (Dl b hb) (hSR.mr.nb b hb).2
 have hg0:∀ b,gH (H 0) b=gH h b:=fun b=>by rw [q4]
 have hmr:MR B.w0 V (H β) w:=by
  have hm:=hSR.mr
  exact ⟨fun b hb=>⟨Nat.lt_of_lt_of_le (Dl b hb) (hd.d9 (Nat.zero_le _) c2),(hm.nb b hb).2⟩,fun b hb=>by rw [hch b hb,hg0];exact hm.bl b hb,fun b b' hb hb' h1 h2=>hm.inj b b' hb hb' (by rw [<-hg0,<-hch b hb];exact h1) (by rw [<-hg0,<-hch b' hb'];exact h2),hm.nw,hm.old,hm.sz,hm.os,hm.tape,hm.output,hm.ar⟩
 refine Iw hs hd dR (by rw [q4];exact dB) (by rw [q4];exact dI.n) ?_ ops.size _ a w (by simp) ?_ ?_ ⟨V,γ,β,?_⟩
 ·intro D a' w' V' γ' β' hall hI
  refine hK a' w' ⟨V',γ',?_⟩
  have hβ:β'=sl.length:=by
   rcases Nat.lt_or_ge β' sl.length with h|h
   ·have:=hI.kD h
    rw [hall β' h] at this
    exact absurd this.2 (by simp)
   ·have:=hI.bm;omega
  have SH:MR B.w0 V' (H sl.length) w':=by
   have hm:=hI.mr
   have hlow:∀ b,V'.S b->b<(H sl.length).n:=fun b hb=>by
    rcases Nat.lt_or_ge b (H sl.length).n with h|h
    ·exact h
    ·obtain ⟨_,⟨i,m2,m3,_⟩,_⟩:=hI.oG b hb (by rw [hβ];exact h)
     omega
   rw [hβ] at hm
   exact ⟨fun b hb=>hm.nb b ⟨hb,hlow b hb⟩,fun b hb=>(hm.bl b ⟨hb,hlow b hb⟩).mono (Vr.ext V' _) ⟨hb,hlow b hb⟩ rfl,fun b b' hb hb'=>hm.inj b b' ⟨hb,hlow b hb⟩ ⟨hb',hlow b' hb'⟩,hI.nw,hm.old,hm.sz,hm.os,hm.tape,hm.output,hm.ar⟩
  rw [q5] at SH
  have Lv:∀ k,FD (uT sl sv H) D (t0 S H) sl.length k=FD (uT sl sv H) (fun _=>true) (t0 S H) sl.length k:=fun k=>Ao fun i hi _=>hall i hi
  have Di:∀ k,FD (uC var H) D (c0 S H) sl.length k=FD (uC var H) (fun _=>true) (c0 S H) sl.length k:=fun k=>Ao fun i hi _=>hall i hi
  refine ⟨SH,hI.bS,fun k v hk=> ?_,fun p x hp=> ?_,fun p q x y hp hq=> ?_,hI.df,hI.sz,hI.b0⟩
  ·rw [<-q7] at hk
   obtain ⟨n,hn⟩:=hd.Lu (Nat.le_refl _) hk
   exact (hI.tm k v n (by rw [Lv];exact hn)).mono (Vr.ext V' n)
  ·rw [<-q7] at hp
   obtain ⟨n,hn⟩:=hd.Ap (Nat.le_refl _) hp
   obtain ⟨h1,⟨cells,e,h2,h3⟩,h4⟩:=hI.vr p x n (by rw [Di];exact hn)
   exact ⟨h1,⟨cells,e,h2,h3.mono (Vr.ext V' n)⟩,h4⟩
  ·rw [<-q7] at hp hq
   obtain ⟨n,hn⟩:=hd.Ap (Nat.le_refl _) hp
   obtain ⟨n',hn'⟩:=hd.Ap (Nat.le_refl _) hq
   exact hI.inj p q _ _ (by rw [Di];exact hn) (by rw [Di];exact hn')
 ·rw [hD0];intro i o hi;cases hi
 ·exact Nat.le_trans List.countP_le_length (by simp)
 ·rw [hD0]
  have SK:∀ b,V.S b->b<(H β).n:=fun b hb=>Nat.lt_of_lt_of_le (Dl b hb) (hd.d9 (Nat.zero_le _) c2)
  refine ⟨c2,fun j hj hb=>absurd hb (c3 j hj),fun hb=>⟨c4 hb,rfl⟩,fun _ _ _ _=> .inl rfl,⟨fun b hb=>hmr.nb b hb.1,fun b hb=>(hmr.bl b hb.1).mono (Vr.into (.refl V) SK) hb.1 rfl,fun b b' hb hb'=>hmr.inj b b' hb.1 hb'.1,fun b hb=>hmr.nw b hb.1,hmr.old,hmr.sz,hmr.os,hmr.tape,hmr.output,hmr.ar⟩,hmr.nw,fun b hb hn=>absurd (SK b hb) (by omega),fun q hq _ b hb hbn _=> ?_,fun b hb=> .inl (Dl b hb),hSR.bS,fun k v n hk=> ?_,fun p x n hp=> ?_,fun p q x y hp hq=> ?_,hSR.df,hSR.sz,hSR.b0⟩
  ·exact (hmr.bl b hb).mono (LU _ (hd.d9 (Nat.zero_le _) hq)) hb rfl
  ·rw [F6] at hk
   unfold t0 at hk
   rw [hS0] at hk
   simp only [Option.map_eq_some_iff,Prod.mk.injEq] at hk
   obtain ⟨v',h1,rfl,rfl⟩:=hk
   exact (hSR.tm k _ h1).mono (LU _ (Nat.le_refl _))
  ·rw [F6] at hp
   unfold c0 at hp
   rw [hS0] at hp
   simp only [Option.map_eq_some_iff,Prod.mk.injEq] at hp
   obtain ⟨v',h1,rfl,rfl⟩:=hp
   obtain ⟨h2,⟨cells,e,h3,h4⟩,h5⟩:=hSR.vr p _ h1
   exact ⟨h2,⟨cells,e,h3,h4.mono (LU _ (Nat.le_refl _))⟩,h5⟩
  ·rw [F6] at hp hq
   unfold c0 at hp hq
   rw [hS0] at hp hq
   simp only [Option.map_eq_some_iff] at hp hq
   obtain ⟨v',h1,_⟩:=hp
   obtain ⟨v'',h2,_⟩:=hq
   exact hSR.inj p q _ _ h1 h2
end
end
end Go.M
namespace Go.M
open Go
noncomputable section
variable [aY]
def LV:Kx:=fun x h=>ah (Nat.beq x.n 33) (some h.fa) none
def aQ (l:List Prop):Prop:= @List.rec Prop (fun _=>Prop) True (fun p _ ih=>p/\ih) l
def gU (r:R):Prop:= @Option.rec (List Prop) (fun _=>Prop) False (fun l=>aQ l) r
theorem SL:∀ {l:List Prop},aQ l->∀ p ∈ l,p
 |[],_,p,hp=>by simp at hp
 |q::l,h,p,hp=>by
  have h':q/\aQ l:=h
  rcases List.mem_cons.1 hp with rfl|hp
  ·exact h'.1
  ·exact SL h'.2 p hp
theorem LW {r:R} (h:gU r):∃ l,r=some l/\∀ p ∈ l,p:=by
 cases r with
 |none=>exact h.elim
 |some l=>exact ⟨l,rfl,SL h⟩
def Vz:Vw:=⟨fun _=>False,fun _=>0,fun _=>0,fun _=>0⟩
theorem top {P:Program} {f:FuncId} {fc:FC} (hf:iy P f fc) {xs:List X} {q:List X} (hr:gU (fc.f xs (h0 q) LV)) {vals:Array Value} (hv:aU Vz xs vals.toList) (w:World) (hΦ:aY.Φ w):
  Calls P f vals w fun e w'=>e= .returned (.bool true)/\Go.RowKit.Below w.heap.size w w':=by
 obtain ⟨l,e,hl⟩:=LW hr
 obtain ⟨x,h',e1,_,h3⟩:=hf xs (h0 q) LV l (Nat.le_refl _) e
 obtain ⟨t,e2⟩:=aI (show ah (Nat.beq x.n 33) (some h'.fa) none=some l from e1)
 have e2:h'.fa=l:=Option.some.inj e2
 have hm:MR w Vz (h0 q) w:=⟨fun b hb=>hb.elim,fun b hb=>hb.elim,fun b b' hb=>hb.elim,fun b hb=>hb.elim,fun _ _=>rfl,Nat.le_refl _,rfl,rfl,rfl,hΦ⟩
 obtain ⟨_,hc⟩:=h3 (by rw [e2];exact hl) w Vz w vals hm hv
 refine hc.mono fun e w' ⟨v,V',he,h4,h5,h6⟩=>⟨?_,h4.os,h4.tape,h4.output,h4.sz,fun k hk=>h4.old k hk⟩
 rw [he,vk (aC t) h5]
def LX:FC:=⟨fun xs h k=>eD xs (k xT h) fun _ _=>none⟩
theorem anl {P:Program} {f:FuncId} (hE:Enters P f) (hc:∀ w,Calls P f #[] w fun e w'=>e= .returned (.bool true)/\Go.RowKit.Below w.heap.size w w'):iy P f LX:=fun xs h k r _ e=>by
 cases xs with
 |cons x xs=>cases e
 |nil=>
  refine ⟨xT,h,e,.refl _ _,fun _ w0 V w vals hm hv=>⟨hE,?_⟩⟩
  have hv:vals= #[]:=by
   have:=dA.1 hv
   exact Array.toList_inj.1 (by simpa using this)
  subst hv
  refine (hc w).mono fun e w' ⟨he,hb⟩=>⟨.bool true,V,he,?_,Cr,⟨.refl V,fun b hb=> .inl hb,fun g hg _=>hb.block g hg,hb.size⟩⟩
  exact ⟨hm.nb,fun b hb'=>(hm.bl b hb').world (hb.block _ (hm.nw b hb').2),hm.inj,fun b hb'=>⟨(hm.nw b hb').1,Nat.lt_of_lt_of_le (hm.nw b hb').2 hb.size⟩,fun g hg=>by rw [hb.block g (Nat.lt_of_lt_of_le hg hm.sz)];exact hm.old g hg,Nat.le_trans hm.sz hb.size,by rw [hb.os,hm.os],by rw [hb.tape,hm.tape],by rw [hb.output,hm.output],hm.ar⟩
def SN (cl:Nat->FC) (f:Nat) (c:FC) (g:Nat):FC:=cnd (Nat.beq g f) c (cl g)
theorem anm {P:Program} {cl:Nat->FC} {f:Nat} {c:FC} (h:gu P cl) (hc:iy P f c):gu P (SN cl f c):=fun g=>by
 show iy P g (cnd (Nat.beq g f) c (cl g))
 cases hb:Nat.beq g f with
 |false=>exact h g
 |true=>rw [aC hb];exact hc
theorem aj.enters {P:Program} {f:FuncId} {F:ai} (h:aj P f F):Enters P f:=by
 obtain ⟨⟨fn,c,h1,h2,h3,_⟩,_⟩:=h
 exact ⟨fn,h1,h2,by rw [h3];rfl⟩
theorem SQ {P:Program} {cl:Nat->FC} {f:Nat} {F:ai} (h:gu P cl) (hF:aj P f F):iy P f (rO cl F):=Sd h (fun cx nt hcx=>Gh (hcx▸h)) hF
end
end Go.M
namespace Go.M
open Go
open Go.Eng (SOp SOper SCode stripCode)
noncomputable section
variable [aY]
def Dm (L:List Nat) (b:Nat):Nat->(Nat->R)->R:= @List.rec Nat (fun _=>Nat->(Nat->R)->R) (fun _ _=>none) (fun j _ ih i k=>ah (Nat.beq j b) (k i) (aJ (Nat.succ i) fun i=>ih i k)) L
theorem Gi:∀ {L:List Nat} {b i:Nat} {k:Nat->R} {r},Dm L b i k=some r->∃ j,L[j]? =some b/\k (i+j)=some r
 |[],b,i,k,r,e=>by cases e
 |c::L,b,i,k,r,e=>by
  have e1:ah (Nat.beq c b) (k i) (Dm L b (i+1) k)=some r:=e
  rcases aF e1 with ⟨h1,h2⟩|⟨_,h2⟩
  ·exact ⟨0,by rw [aC h1];rfl,h2⟩
  ·obtain ⟨j,h3,h4⟩:=Gi h2
   exact ⟨j+1,by simpa using h3,by rw [show i+(j+1)=i+1+j from by omega];exact h4⟩
structure RX where
 f:(X->R)->R
structure RL where
 f:(List X->R)->R
def LY (L:List Nat) (n:Nat) (k:Nat->R):R:=ah (Nat.beq (Nat.land n 31) 7) (Dm L (Nat.shiftRight n 25) 0 fun i=>aJ (Nat.add (Nat.mul 33554432 i) (Nat.mod n 33554432)) fun m=>k m)
 (ah (Nat.beq (Nat.land n 31) 8) (Dm L (Nat.shiftRight n 46) 0 fun i=>aJ (Nat.add (Nat.mul 70368744177664 i) (Nat.mod n 70368744177664)) fun m=>k m)
 (ah (Nat.beq (Nat.land n 31) 10) (Dm L (Nat.shiftRight n 5) 0 fun i=>aJ (Nat.add (Nat.mul 32 i) 10) fun m=>k m) (k n)))
abbrev SS (L:List Nat) (n:Nat) (o:Value) (ih:RL):RX:=⟨fun k=>ih.f fun l'=>aJ n fun n=>LY L n fun m=>k ⟨m,l',o⟩⟩
abbrev SX (a:RX) (b:RL):RL:=⟨fun k=>a.f fun y=>b.f fun ys=>k (y::ys)⟩
def Gj (L:List Nat) (x:X):RX:= @X.rec (fun _=>RX) (fun _=>RL) (fun n _ o ih=>SS L n o ih) ⟨fun k=>k []⟩ (fun _ _ a b=>SX a b) x
def Gl (L:List Nat) (l:List X):RL:= @X.rec_1 (fun _=>RX) (fun _=>RL) (fun n _ o ih=>SS L n o ih) ⟨fun k=>k []⟩ (fun _ _ a b=>SX a b) l
def yt (L:List Nat) (n n':Nat):Prop:=
 (n % 32=7/\∃ i,L[i]? =some (n / 33554432)/\n'=33554432*i+n % 33554432)\/
 (n % 32=8/\∃ i,L[i]? =some (n / 70368744177664)/\n'=70368744177664*i+n % 70368744177664)\/
 (n % 32=10/\∃ i,L[i]? =some (n / 32)/\n'=32*i+10)\/(n % 32≠7/\n % 32≠8/\n % 32≠10/\n'=n)
theorem ann {L:List Nat} {n:Nat} {k:Nat->R} {r} (e:LY L n k=some r):∃ n',yt L n n'/\k n'=some r:=by
 rcases aF e with ⟨h1,h2⟩|⟨h1,h2⟩
 ·obtain ⟨i,h3,h4⟩:=Gi h2
  rw [shr] at h3;rw [Nat.zero_add] at h4
  exact ⟨_,.inl ⟨by rw [<-jD];exact aC h1,i,h3,rfl⟩,h4⟩
 ·have t7:=ku h1
  rcases aF h2 with ⟨h1,h2⟩|⟨h1,h2⟩
  ·obtain ⟨i,h3,h4⟩:=Gi h2
   rw [shr] at h3;rw [Nat.zero_add] at h4
   exact ⟨_,.inr (.inl ⟨by rw [<-jD];exact aC h1,i,h3,rfl⟩),h4⟩
  ·have t8:=ku h1
   rcases aF h2 with ⟨h1,h2⟩|⟨h1,h2⟩
   ·obtain ⟨i,h3,h4⟩:=Gi h2
    rw [shr] at h3;rw [Nat.zero_add] at h4
    exact ⟨_,.inr (.inr (.inl ⟨by rw [<-jD];exact aC h1,i,h3,rfl⟩)),h4⟩
   ·exact ⟨n,.inr (.inr (.inr ⟨t7,t8,ku h1,rfl⟩)),h2⟩
theorem yt.tag {L:List Nat} {n n':Nat} (h:yt L n n'):n' % 32=n % 32:=by
 rcases h with ⟨h,i,_,rfl⟩|⟨h,i,_,rfl⟩|⟨h,i,_,rfl⟩|⟨_,_,_,rfl⟩<;>omega
theorem yt.same {L:List Nat} {n n':Nat} (h:yt L n n') (h7:n % 32≠7) (h8:n % 32≠8) (h10:n % 32≠10):n'=n:=by
 rcases h with ⟨h,_⟩|⟨h,_⟩|⟨h,_⟩|⟨_,_,_,rfl⟩
 ·exact absurd h h7
 ·exact absurd h h8
 ·exact absurd h h10
 ·rfl
mutual
def Ren (L:List Nat):X->X->Prop
 |⟨n,l,o⟩,y=>yt L n y.n/\y.o=o/\fJ L l y.l
def fJ (L:List Nat):List X->List X->Prop
 |[],l'=>l'=[]
 |x::l,l'=>∃ y r,l'=y::r/\Ren L x y/\fJ L l r
end
theorem fJ.length {L:List Nat}:∀ {l l':List X},fJ L l l'->l'.length=l.length
 |[],l',h=>by unfold fJ at h;subst h;rfl
 |x::l,l',h=>by
  unfold fJ at h
  obtain ⟨y,r,rfl,_,h⟩:=h
  simp [fJ.length h]
theorem fJ.get {L:List Nat}:∀ {l l':List X},fJ L l l'->∀ {i:Nat} {y:X},l'[i]? =some y->∃ x,l[i]? =some x/\Ren L x y
 |[],l',h,i,y,hy=>by unfold fJ at h;subst h;simp at hy
 |x::l,l',h,i,y,hy=>by
  unfold fJ at h
  obtain ⟨z,r,rfl,h1,h⟩:=h
  cases i with
  |zero=>simp at hy;subst hy;exact ⟨x,rfl,h1⟩
  |succ i=>simpa using fJ.get h (by simpa using hy)
mutual
theorem SY {L:List Nat}:∀ (x:X) {k:X->R} {r},(Gj L x).f k=some r->∃ y,Ren L x y/\k y=some r
 |⟨n,l,o⟩,k,r,e=>by
  have e1:(Gl L l).f (fun l'=>LY L n fun m=>k ⟨m,l',o⟩)=some r:=e
  obtain ⟨l',h1,e2⟩:=LZ l e1
  obtain ⟨m,h2,e3⟩:=ann e2
  exact ⟨⟨m,l',o⟩,by unfold Ren;exact ⟨h2,rfl,h1⟩,e3⟩
theorem LZ {L:List Nat}:∀ (l:List X) {k:List X->R} {r},(Gl L l).f k=some r->∃ l',fJ L l l'/\k l'=some r
 |[],k,r,e=>⟨[],by unfold fJ;rfl,e⟩
 |x::l,k,r,e=>by
  have e1:(Gj L x).f (fun y=>(Gl L l).f fun ys=>k (y::ys))=some r:=e
  obtain ⟨y,h1,e2⟩:=SY x e1
  obtain ⟨ys,h2,e3⟩:=LZ l e2
  exact ⟨y::ys,by unfold fJ;exact ⟨y,ys,rfl,h1,h2⟩,e3⟩
end
def Vn (L:List Nat) (V:Vw):Vw:=⟨fun i=>∃ b,L[i]? =some b/\V.S b,fun i=>V.ρ (L.getD i 0),fun i=>V.σ (L.getD i 0),fun i=>V.ε (L.getD i 0)⟩
theorem ug {L:List Nat} {i b:Nat} (h:L[i]? =some b):L.getD i 0=b:=by rw [List.getD_eq_getElem?_getD,h];rfl
mutual
theorem Aw {L:List Nat} {V:Vw}:∀ (x:X) {y:X} {u:Value},Ren L x y->den V x u->den (Vn L V) y u
 |⟨n,l,o⟩,⟨n',l',o'⟩,u,hr,hd=>by
  unfold Ren at hr
  obtain ⟨hn,ho,hl⟩:=hr
  have ho:o'=o:=ho
  subst ho
  have ht:n' % 32=n % 32:=hn.tag
  have hs:∀ t,n % 32=t->t≠7->t≠8->t≠10->n'=n:=fun t e h7 h8 h10=>hn.same (by omega) (by omega) (by omega)
  have hll:∀ vs,aU V l vs->aU (Vn L V) l' vs:=fun vs=>S9 l hl
  unfold den at hd
  split at hd
  ·rename_i e;rw [hs _ e (by decide) (by decide) (by decide)] at ht ⊢;exact (dO (x:=⟨n,l',o'⟩) e).2 hd
  ·rename_i e;rw [hs _ e (by decide) (by decide) (by decide)] at ht ⊢;exact (lI (x:=⟨n,l',o'⟩) e).2 hd
  ·rename_i e;rw [hs _ e (by decide) (by decide) (by decide)] at ht ⊢
   obtain ⟨vs,h1,h2,h3,h4⟩:=hd
   exact (lJ (x:=⟨n,l',o'⟩) e).2 ⟨vs,h1,h2,hll vs h3,h4⟩
  ·rename_i e;rw [hs _ e (by decide) (by decide) (by decide)] at ht ⊢
   obtain ⟨vs,h1,h3⟩:=hd
   exact (xu (x:=⟨n,l',o'⟩) e).2 ⟨vs,h1,hll vs h3⟩
  ·rename_i e;rw [hs _ e (by decide) (by decide) (by decide)] at ht ⊢;exact (oh (x:=⟨n,l',o'⟩) e).2 hd
  ·rename_i e;rw [hs _ e (by decide) (by decide) (by decide)] at ht ⊢;exact (Ca (x:=⟨n,l',o'⟩) e).2 hd
  ·rename_i e;rw [hs _ e (by decide) (by decide) (by decide)] at ht ⊢;exact (jX (x:=⟨n,l',o'⟩) e).2 hd
  ·rename_i e
   have hn':∃ i,L[i]? =some (n / 33554432)/\n'=33554432*i+n % 33554432:=by
    rcases hn with ⟨_,h⟩|⟨h,_⟩|⟨h,_⟩|⟨h,_⟩
    ·exact h
    ·omega
    ·omega
    ·exact absurd e h
   obtain ⟨i,h1,rfl⟩:=hn'
   obtain ⟨h2,h3⟩:=hd
   have a1:n / 32 / 1048576=n / 33554432:=by omega
   have a2:(33554432*i+n % 33554432) / 32 / 1048576=i:=by omega
   have a3:(33554432*i+n % 33554432) / 32 % 1048576=n / 32 % 1048576:=by omega
   refine (mK (by show (33554432*i+n % 33554432) % 32=7;omega)).2 ?_
   simp only [a2,a3]
   rw [a1] at h2 h3
   exact ⟨⟨_,h1,h2⟩,by rw [h3];show _=Value.pointer (some ⟨V.ρ (L.getD i 0),_,none⟩);rw [ug h1]⟩
  ·rename_i e
   have hn':∃ i,L[i]? =some (n / 70368744177664)/\n'=70368744177664*i+n % 70368744177664:=by
    rcases hn with ⟨h,_⟩|⟨_,h⟩|⟨h,_⟩|⟨_,h,_⟩
    ·omega
    ·exact h
    ·omega
    ·exact absurd e h
   obtain ⟨i,h1,rfl⟩:=hn'
   obtain ⟨h2,cap,h3,h4,h5,h6⟩:=hd
   have a1:n / 64 / 1048576 / 1048576=n / 70368744177664:=by omega
   have a2:(70368744177664*i+n % 70368744177664) / 64 / 1048576 / 1048576=i:=by omega
   have a3:(70368744177664*i+n % 70368744177664) / 64 / 1048576 % 1048576=n / 64 / 1048576 % 1048576:=by omega
   have a4:(70368744177664*i+n % 70368744177664) / 64 % 1048576=n / 64 % 1048576:=by omega
   have a5:(70368744177664*i+n % 70368744177664) / 32 % 2=n / 32 % 2:=by omega
   refine (gT (by show (70368744177664*i+n % 70368744177664) % 32=8;omega)).2 ?_
   simp only [a2,a3,a4,a5]
   rw [a1] at h2 h3 h6
   have e1:(Vn L V).ρ i=V.ρ (n / 70368744177664):=by show V.ρ (L.getD i 0)=_;rw [ug h1]
   have e2:(Vn L V).ε i=V.ε (n / 70368744177664):=by show V.ε (L.getD i 0)=_;rw [ug h1]
   have e3:(Vn L V).σ i=V.σ (n / 70368744177664):=by show V.σ (L.getD i 0)=_;rw [ug h1]
   rw [e1,e2,e3]
   exact ⟨⟨_,h1,h2⟩,cap,h3,h4,h5,h6⟩
  ·rename_i e;rw [hs _ e (by decide) (by decide) (by decide)] at ht ⊢
   obtain ⟨vs,h1,h3⟩:=hd
   exact (xw (x:=⟨n,l',o'⟩) e).2 ⟨vs,h1,hll vs h3⟩
  ·rename_i e
   have hn':∃ i,L[i]? =some (n / 32)/\n'=32*i+10:=by
    rcases hn with ⟨h,_⟩|⟨h,_⟩|⟨_,h⟩|⟨_,_,h,_⟩
    ·omega
    ·omega
    ·exact h
    ·exact absurd e h
   obtain ⟨i,h1,rfl⟩:=hn'
   obtain ⟨h2,h3⟩:=hd
   have a2:(32*i+10) / 32=i:=by omega
   refine (uZ (by show (32*i+10) % 32=10;omega)).2 ?_
   simp only [a2]
   exact ⟨⟨_,h1,h2⟩,by rw [h3];show _=Value.map (some (V.ρ (L.getD i 0)));rw [ug h1]⟩
  ·rename_i e;rw [hs _ e (by decide) (by decide) (by decide)] at ht ⊢;exact (zL (x:=⟨n,l',o'⟩) e).2 hd
  ·rename_i e;rw [hs _ e (by decide) (by decide) (by decide)] at ht ⊢;exact (jY (x:=⟨n,l',o'⟩) (.inl e)).2 hd
  ·rename_i e;rw [hs _ e (by decide) (by decide) (by decide)] at ht ⊢;exact (jY (x:=⟨n,l',o'⟩) (.inr e)).2 hd
  ·rename_i e;rw [hs _ e (by decide) (by decide) (by decide)] at ht ⊢;exact (ED (x:=⟨n,l',o'⟩) e).2 hd
  ·rename_i e;rw [hs _ e (by decide) (by decide) (by decide)] at ht ⊢;exact (O1 (x:=⟨n,l',o'⟩) e).2 hd
  ·exact hd.elim
theorem S9 {L:List Nat} {V:Vw}:∀ (l:List X) {l':List X} {vs:List Value},fJ L l l'->aU V l vs->aU (Vn L V) l' vs
 |[],l',vs,hr,hd=>by
  unfold fJ at hr;subst hr
  exact dA.2 (dA.1 hd)
 |x::l,l',vs,hr,hd=>by
  unfold fJ at hr
  obtain ⟨y,r,rfl,h1,h2⟩:=hr
  obtain ⟨v,vr,rfl,h3,h4⟩:=dz.1 hd
  exact dz.2 ⟨v,vr,rfl,Aw x h1 h3,S9 l h2 h4⟩
end
theorem Ren.parts {L:List Nat} {x y:X} (h:Ren L x y):yt L x.n y.n/\y.o=x.o/\fJ L x.l y.l:=by
 obtain ⟨n,l,o⟩:=x
 unfold Ren at h;exact h
theorem Ta {L:List Nat} {V:Vw} {e:Nat} {rows rows':List X} {cells:Array Value} (hr:fJ L rows rows') (h:bg V e rows cells):bg (Vn L V) e rows' cells:=fun q row hq=>by
 obtain ⟨x,h1,h2⟩:=hr.get hq
 obtain ⟨h3,h4,h5⟩:=h q x h1
 obtain ⟨p1,_,p3⟩:=h2.parts
 refine ⟨?_,p3.length.trans h4,fun j c hj=> ?_⟩
 ·rw [p1.same (by omega) (by omega) (by omega)];exact h3
 ·obtain ⟨c0,h6,h7⟩:=p3.get hj
  obtain ⟨u,h8,h9,h10⟩:=h5 j c0 h6
  exact ⟨u,h8,h9,Aw c0 h7 h10⟩
theorem Tc {L:List Nat} {V:Vw}:∀ {l l':List X} {es:List MapEntry},fJ L l l'->iE V l es->iE (Vn L V) l' es
 |[],l',es,hr,h=>by unfold fJ at hr;subst hr;exact h
 |x::l,l',es,hr,h=>by
  unfold fJ at hr
  obtain ⟨y,r,rfl,h1,h2⟩:=hr
  obtain ⟨e,er,c,g1,g2,g3,⟨q,m,g4⟩,g5,g6⟩:=h
  obtain ⟨p1,_,p3⟩:=h1.parts
  rw [g2] at p3
  unfold fJ at p3
  obtain ⟨c',r',p4,p5,p6⟩:=p3
  unfold fJ at p6
  subst p6
  have hk:x.n % 32≠7/\x.n % 32≠8/\x.n % 32≠10:=by
   refine ⟨fun t=> ?_,fun t=> ?_,fun t=> ?_⟩
   ·have:=((mK (x:=⟨x.n,[],oZ⟩) t).1 g3).2;rw [g4] at this;cases this
   ·obtain ⟨_,cap,this,_⟩:=(gT (x:=⟨x.n,[],oZ⟩) t).1 g3;rw [g4] at this;cases this
   ·have:=((uZ (x:=⟨x.n,[],oZ⟩) t).1 g3).2;rw [g4] at this;cases this
  have hn:=p1.same hk.1 hk.2.1 hk.2.2
  refine ⟨e,er,c',g1,p4,?_,⟨q,m,g4⟩,Aw c p5 g5,Tc h2 g6⟩
  rw [hn]
  refine Aw ⟨x.n,[],oZ⟩ ?_ g3
  unfold Ren fJ
  exact ⟨.inr (.inr (.inr ⟨hk.1,hk.2.1,hk.2.2,rfl⟩)),rfl,rfl⟩
theorem ano {L:List Nat} {V:Vw} {w:World} {b i:Nat} {x y:X} (hi:L[i]? =some b) (hr:Ren L x y) (h:bH V w b x):bH (Vn L V) w i y:=by
 obtain ⟨p1,_,p3⟩:=hr.parts
 have e1:(Vn L V).ρ i=V.ρ b:=by show V.ρ (L.getD i 0)=_;rw [ug hi]
 have e2:(Vn L V).ε i=V.ε b:=by show V.ε (L.getD i 0)=_;rw [ug hi]
 have e3:(Vn L V).σ i=V.σ b:=by show V.σ (L.getD i 0)=_;rw [ug hi]
 have ht:=p1.tag
 unfold bH at h ⊢
 rw [e1,e2,e3,ht]
 split at h
 ·rename_i t
  obtain ⟨cells,e,h1,h2,h3,h4,h5,h6⟩:=h
  exact ⟨cells,e,h1,h2,by rw [p1.same (by omega) (by omega) (by omega)];exact h3,h4,by rw [p3.length];exact h5,Ta p3 h6⟩
 ·rename_i t
  obtain ⟨cells,e,h1,h2,h3,h4,h5,h6⟩:=h
  exact ⟨cells,e,h1,h2,by rw [p1.same (by omega) (by omega) (by omega)];exact h3,h4,by rw [p3.length];exact h5,Ta p3 h6⟩
 ·obtain ⟨es,c,h1,h2⟩:=h
  exact ⟨es,c,h1,Tc p3 h2⟩
 ·trivial
def Gm (l:List X):Nat->T8->(T8->R)->R:= @List.rec X (fun _=>Nat->T8->(T8->R)->R) (fun _ t k=>k t) (fun x _ ih i t k=>opn x fun a m o=>(eT.put i).f t ⟨a,m,o⟩ fun t=>aJ (Nat.succ i) fun i=>ih i t k) l
def yu:List X->Nat->T8->T8
 |[],_,t=>t
 |x::l,i,t=>yu l (i+1) (eT.pt t i x)
theorem L6:∀ (l:List X) (i:Nat) (t:T8) (k:T8->R),Gm l i t k=k (yu l i t)
 |[],i,t,k=>rfl
 |x::l,i,t,k=>by
  show opn x (fun a m o=>(eT.put i).f t ⟨a,m,o⟩ fun t=>Gm l (i+1) t k)=_
  rw [fo,BX.put_eq];cases x;exact L6 l _ _ _
theorem Td:∀ (l:List X) (i:Nat) (t:T8) (b:Nat),i+l.length<=65536->b<65536->(eT.get b).g (yu l i t)=if b<i then (eT.get b).g t else match l[b - i]? with
  |some x=>x
  |none=>(eT.get b).g t
 |[],i,t,b,_,_=>by simp [yu]
 |x::l,i,t,b,h,hb=>by
  simp only [List.length_cons] at h
  show (eT.get b).g (yu l (i+1) (eT.pt t i x))=_
  rw [Td l (i+1) _ b (by omega) hb,tK (by omega) hb]
  by_cases h1:b<i
  ·rw [if_pos (by omega),if_neg (by omega),if_pos h1]
  ·rw [if_neg h1]
   by_cases h2:b=i
   ·subst h2;rw [if_pos (by omega),if_pos rfl];simp
   ·rw [if_neg (by omega),if_neg h2]
    obtain ⟨d,rfl⟩:∃ d,b=i+1+d:=⟨b - (i+1),by omega⟩
    rw [show i+1+d - (i+1)=d from by omega,show i+1+d - i=d+1 from by omega]
    simp
theorem L8 {α:Type} {g:Nat->EA α} {i j b:Nat} (x:α):(pK g i j b).g (f4 x)=(g b).g x:=by
 unfold pK f4
 cases eO b i<;>cases eO b j<;>rfl
def Gn (l:List X):Nat->FX->(FX->R)->R:= @List.rec X (fun _=>Nat->FX->(FX->R)->R) (fun _ t k=>k t) (fun x _ ih i t k=>opn x fun a m o=>(eP.put i).f t ⟨a,m,o⟩ fun t=>aJ (Nat.succ i) fun i=>ih i t k) l
def vY:List X->Nat->FX->FX
 |[],_,t=>t
 |x::l,i,t=>vY l (i+1) (eP.pt t i x)
theorem L9:∀ (l:List X) (i:Nat) (t:FX) (k:FX->R),Gn l i t k=k (vY l i t)
 |[],i,t,k=>rfl
 |x::l,i,t,k=>by
  show opn x (fun a m o=>(eP.put i).f t ⟨a,m,o⟩ fun t=>Gn l (i+1) t k)=_
  rw [fo,zK.put_eq];cases x;exact L9 l _ _ _
theorem anp {t:FX} {i j:Nat} {x:X} (hi:i<64) (hj:j<64):aW (eP.pt t i x) j=if j=i then x else aW t j:=by
 by_cases e:j=i
 ·subst e;rw [if_pos rfl];exact zK.self _ _ _ _ (JA _ _)
 ·rw [if_neg e];exact zK.other _ _ _ _ fun hs=>e (Jz hs hi hj).symm
theorem Ma:∀ (l:List X) (i:Nat) (t:FX) (b:Nat),i+l.length<=64->b<64->aW (vY l i t) b=if b<i then aW t b else match l[b - i]? with
  |some x=>x
  |none=>aW t b
 |[],i,t,b,_,_=>by simp [vY]
 |x::l,i,t,b,h,hb=>by
  simp only [List.length_cons] at h
  show aW (vY l (i+1) (eP.pt t i x)) b=_
  rw [Ma l (i+1) _ b (by omega) hb,anp (by omega) hb]
  by_cases h1:b<i
  ·rw [if_pos (by omega),if_neg (by omega),if_pos h1]
  ·rw [if_neg h1]
   by_cases h2:b=i
   ·subst h2;rw [if_pos (by omega),if_pos rfl];simp
   ·rw [if_neg (by omega),if_neg h2]
    obtain ⟨d,rfl⟩:∃ d,b=i+1+d:=⟨b - (i+1),by omega⟩
    rw [show i+1+d - (i+1)=d from by omega,show i+1+d - i=d+1 from by omega]
    simp
def Mc (m:Nat):Nat->FX->(List X->R)->R:= @Nat.rec (fun _=>Nat->FX->(List X->R)->R) (fun _ _ k=>k []) (fun _ ih j fr k=>opn ((eP.get j).g fr) fun a l o=>aJ (Nat.succ j) fun j'=>ih j' fr fun xs=>k (⟨a,l,o⟩::xs)) m
theorem Te:∀ {m j:Nat} {fr:FX} {k:List X->R} {r},Mc m j fr k=some r->∃ xs,xs.length=m/\(∀ i,i<m->xs[i]? =some (aW fr (j+i)))/\k xs=some r
 |0,j,fr,k,r,e=>⟨[],rfl,fun i hi=>absurd hi (Nat.not_lt_zero _),e⟩
 |m+1,j,fr,k,r,e=>by
  have e1:opn (aW fr j) (fun a l o=>Mc m (j+1) fr fun xs=>k (⟨a,l,o⟩::xs))=some r:=e
  rw [fo] at e1
  obtain ⟨xs,h1,h2,h3⟩:=Te e1
  refine ⟨aW fr j::xs,by simp [h1],fun i hi=> ?_,by cases hx:aW fr j;rw [hx] at h3;exact h3⟩
  cases i with
  |zero=>rfl
  |succ i=>rw [List.getElem?_cons_succ,h2 i (by omega)];congr 2;omega
def Dn (L D:List Nat) (h:Hp) (l:List Nat):(List X->R)->R:= @List.rec Nat (fun _=>(List X->R)->R) (fun k=>k []) (fun b _ ih k=>ah (Nat.ble b 65535) (ah (mem D b) (ih fun ys=>k (aK 0::ys)) ((Gj L (gH h b)).f fun y=>ih fun ys=>k (y::ys))) none) l
theorem Tf {L D:List Nat} {h:Hp}:∀ {l:List Nat} {k:List X->R} {r},Dn L D h l k=some r->∃ ys,ys.length=l.length/\(∀ (i b:Nat),l[i]? =some b->b<65536/\∃ y,ys[i]? =some y/\(y=aK 0\/Ren L (gH h b) y))/\k ys=some r
 |[],k,r,e=>⟨[],rfl,fun i b h=>by simp at h,e⟩
 |c::l,k,r,e=>by
  obtain ⟨hc,e1⟩:=aI (show ah (Nat.ble c 65535) (ah (mem D c) (Dn L D h l fun ys=>k (aK 0::ys)) ((Gj L (gH h c)).f fun y=>Dn L D h l fun ys=>k (y::ys))) none=some r from e)
  have hc:c<=65535:=bI hc
  have fin:∀ y,(y=aK 0\/Ren L (gH h c) y)->(Dn L D h l fun ys=>k (y::ys))=some r->∃ ys,ys.length=(c::l).length/\(∀ (i b:Nat),(c::l)[i]? =some b->b<65536/\∃ y,ys[i]? =some y/\(y=aK 0\/Ren L (gH h b) y))/\k ys=some r:=fun y hy e2=>by
   obtain ⟨ys,h1,h2,h3⟩:=Tf e2
   refine ⟨y::ys,by simp [h1],fun i b hb=> ?_,h3⟩
   cases i with
   |zero=>simp at hb;subst hb;exact ⟨by omega,y,rfl,hy⟩
   |succ i=>simpa using h2 i b (by simpa using hb)
  rcases aF e1 with ⟨_,e2⟩|⟨_,e2⟩
  ·exact fin _ (.inl rfl) e2
  ·obtain ⟨y,h1,e3⟩:=SY _ e2
   exact fin y (.inr h1) e3
def Dp (l:List Nat):Nat->Bool:= @List.rec Nat (fun _=>Nat->Bool) (fun _=>true) (fun b _ ih a=>cnd (Nat.ble a b) (ih (Nat.succ b)) false) l
theorem Md:∀ {l:List Nat} {a:Nat},Dp l a=true->∀ (i b:Nat),l[i]? =some b->a<=b
 |[],a,_,i,b,hb=>by simp at hb
 |c::l,a,h,i,b,hb=>by
  have h1:cnd (Nat.ble a c) (Dp l (c+1)) false=true:=h
  rw [fq] at h1
  split at h1
  ·rename_i hc
   cases i with
   |zero=>simp at hb;subst hb;exact bI hc
   |succ i=>have:=Md h1 i b (by simpa using hb);have:=bI hc;omega
  ·cases h1
theorem Tg:∀ {l:List Nat} {a:Nat},Dp l a=true->∀ (i j b:Nat),l[i]? =some b->l[j]? =some b->i=j
 |[],a,_,i,j,b,hb,_=>by simp at hb
 |c::l,a,h,i,j,b,hi,hj=>by
  have h1:cnd (Nat.ble a c) (Dp l (c+1)) false=true:=h
  rw [fq] at h1
  split at h1
  ·cases i with
   |zero=>cases j with
    |zero=>rfl
    |succ j=>simp at hi;subst hi;have:=Md h1 j _ (by simpa using hj);omega
   |succ i=>cases j with
    |zero=>simp at hj;subst hj;have:=Md h1 i _ (by simpa using hi);omega
    |succ j=>rw [Tg h1 i j b (by simpa using hi) (by simpa using hj)]
  ·cases h1
def Ti (m:Nat) (L D:List Nat) (fr:FX) (h:Hp) (k:List X->List X->R):R:=ah (Dp L 0) (ah (Nat.ble (List.length L) 65535) (Mc m 0 fr fun xs=>(Gl L xs).f fun ys=>Dn L D h L fun bs=>k ys bs) none) none
end
end Go.M
namespace Go.M
open Go
open Go.Eng (SOp SOper SCode stripCode)
noncomputable section
variable [aY]
abbrev fU (cl:Nat->FC) (F:ai):Cx:=⟨cl,F.G,F.PV,F.FL,CG⟩
abbrev z (n:Nat):X:=⟨n,[],oZ⟩
abbrev y (n:Nat) (l:List X):X:=⟨n,l,oZ⟩
def sL:SCode->SCode
 | .seq a _=>a
 |c=>c
def sR:SCode->SCode
 | .seq _ b=>b
 |c=>c
def sB:SCode->SCode
 | .block _ a=>a
 | .loop a=>a
 |c=>c
structure bK where
 fr:List X
 n:Nat
 bl:List X
def B0 (w0:World) (nt:Nat):Bs:=⟨w0,0,Vz,⟨0,0,xS,[],[]⟩,w0,nt⟩
def uh (S:bK) (q:List X):Hp:=⟨S.n,0,yu S.bl 0 xS,[],q⟩
def iG (S:bK):FX:=vY S.fr 0 kr
def Ay (cx:Cx) (nt:Nat) (w0:World) (S:bK) (a:Act) (w:World):Prop:=At cx (B0 w0 nt) en0 (iG S) [] (uh S []) a w
theorem At.hp {cx:Cx} {B:Bs} {en:En} {fr:FX} {l:Loc} {h h':Hp} {a:Act} {w:World} (hA:At cx B en fr l h a w) (hn:h'.n=h.n) (ht:h'.t=h.t):At cx B en fr l h' a w:=by
 obtain ⟨V,γ,hs⟩:=hA
 have hg:∀ b,gH h' b=gH h b:=fun b=>by show (eT.get b).g h'.t=_;rw [ht]
 exact ⟨V,γ,⟨fun b hb=>by rw [hn];exact hs.mr.nb b hb,fun b hb=>by rw [hg];exact hs.mr.bl b hb,fun b b' hb hb' h1 h2=>by rw [hg] at h1 h2;exact hs.mr.inj b b' hb hb' h1 h2,hs.mr.nw,hs.mr.old,hs.mr.sz,hs.mr.os,hs.mr.tape,hs.mr.output,hs.mr.ar⟩,hs.bS,hs.tm,hs.vr,hs.inj,hs.df,hs.sz,hs.b0⟩
theorem anq {cx:Cx} {m:Nat} {L D:List Nat} {fr:FX} {h:Hp} {k:List X->List X->R} {r} (hm:cx.G.length=m) (h64:m<=64) (e:Ti m L D fr h k=some r):
  ∃ ys bs,k ys bs=some r/\∀ nt w0 a w,At cx (B0 w0 nt) en0 fr [] h a w->Ay cx nt w0 ⟨ys,L.length,bs⟩ a w:=by
 obtain ⟨hinc,e1⟩:=aI e
 obtain ⟨hlen,e2⟩:=aI e1
 have hlen:L.length<=65535:=bI hlen
 obtain ⟨xs,x1,x2,e3⟩:=Te e2
 obtain ⟨ys,y1,e4⟩:=LZ xs e3
 obtain ⟨bs,b1,b2,e5⟩:=Tf e4
 refine ⟨ys,bs,e5,fun nt w0 a w ⟨V,γ,hS⟩=> ?_⟩
 have hyl:ys.length=m:=y1.length.trans x1
 have hsl:∀ j,j<m->Ren L (aW fr j) (aW (vY ys 0 kr) j):=fun j hj=>by
  obtain ⟨y,hy⟩:∃ y,ys[j]? =some y:=⟨ys[j]'(by omega),List.getElem?_eq_getElem (by omega)⟩
  obtain ⟨x,h1,h2⟩:=y1.get hy
  rw [x2 j hj,Nat.zero_add] at h1
  simp only [Option.some.injEq] at h1
  subst h1
  rw [Ma ys 0 kr j (by omega) (by omega),if_neg (by omega),Nat.sub_zero,hy]
  exact h2
 have hgh:∀ i b,L[i]? =some b->b<65536/\(gH (uh ⟨ys,L.length,bs⟩ []) i=aK 0\/Ren L (gH h b) (gH (uh ⟨ys,L.length,bs⟩ []) i)):=fun i b hb=>by
  have hi:i<L.length:=(List.getElem?_eq_some_iff.1 hb).1
  obtain ⟨h1,y,h2,h3⟩:=b2 i b hb
  have:gH (uh ⟨ys,L.length,bs⟩ []) i=y:=by
   show (eT.get i).g (yu bs 0 xS)=y
   rw [Td bs 0 xS i (by omega) (by omega),if_neg (by omega),Nat.sub_zero,h2]
  rw [this];exact ⟨h1,h3⟩
 have hlive:∀ i b,L[i]? =some b->live (gH (uh ⟨ys,L.length,bs⟩ []) i)->live (gH h b):=fun i b hb hl=>by
  rcases (hgh i b hb).2 with h1|h1
  ·rw [h1] at hl;rcases hl with h|h|h<;>cases h
  ·have:=h1.parts.1.tag
   unfold live at hl ⊢
   rw [this] at hl;exact hl
 have hρ:∀ i b,L[i]? =some b->(Vn L V).ρ i=V.ρ b:=fun i b hb=>by show V.ρ (L.getD i 0)=_;rw [ug hb]
 have hm':=hS.mr
 have hMR:MR w0 (Vn L V) (uh ⟨ys,L.length,bs⟩ []) w:=by
  refine ⟨fun i ⟨b,hb,_⟩=> ?_,fun i ⟨b,hb,hb'⟩=> ?_,fun i j ⟨b,hb,hb'⟩ ⟨c,hc,hc'⟩ h1 h2 h3=> ?_,fun i ⟨b,hb,hb'⟩=> ?_,hm'.old,hm'.sz,hm'.os,hm'.tape,hm'.output,hm'.ar⟩
  ·have hi:i<L.length:=(List.getElem?_eq_some_iff.1 hb).1
   exact ⟨hi,by omega⟩
  ·rcases (hgh i b hb).2 with h1|h1
   ·rw [h1];exact trivial
   ·exact ano hb h1 (hm'.bl b hb')
  ·rw [hρ i b hb,hρ j c hc] at h3
   have:=hm'.inj b c hb' hc' (hlive i b hb h1) (hlive j c hc h2) h3
   subst this
   exact Tg hinc i j b hb hc
  ·rw [hρ i b hb];exact hm'.nw b hb'
 have hC:∀ p x,bf cx en0 (iG ⟨ys,L.length,bs⟩) [] p=some x->∃ j y,ix cx.G p=some j/\j<m/\x=aW (iG ⟨ys,L.length,bs⟩) j/\x.n≠14/\y=aW fr j/\bf cx en0 fr [] p=some y/\mem cx.PV p=true:=fun p x hx=>by
  have hx':(if mem cx.PV p=true then match ix cx.G p with
   |some j=>if (aW (iG ⟨ys,L.length,bs⟩) j).n=14 then none else some (aW (iG ⟨ys,L.length,bs⟩) j)
   |none=>none
   else none)=some x:=hx
  split at hx'
  ·rename_i hpv
   cases hj:ix cx.G p with
   |none=>rw [hj] at hx';cases hx'
   |some j=>
    rw [hj] at hx'
    have hgj:=vL hj
    have hlt:j<m:=by rw [<-hm];exact (List.getElem?_eq_some_iff.1 hgj).1
    by_cases e14:(aW (iG ⟨ys,L.length,bs⟩) j).n=14
    ·simp only [e14,if_true] at hx';cases hx'
    ·simp only [e14,if_false,Option.some.injEq] at hx'
     refine ⟨j,_,rfl,hlt,hx'.symm,by rw [<-hx'];exact e14,rfl,?_,hpv⟩
     show (if mem cx.PV p=true then match ix cx.G p with
      |some j=>if (aW fr j).n=14 then none else some (aW fr j)
      |none=>none
      else none)=_
     have hr:=(hsl j hlt).parts.1
     have:(aW fr j).n≠14:=fun e=>e14 (by rw [show (aW (iG ⟨ys,L.length,bs⟩) j).n=(aW fr j).n from hr.same (by omega) (by omega) (by omega)];exact e)
     rw [hpv,hj];simp [this]
  ·cases hx'
 refine ⟨Vn L V,γ,hMR,⟨⟨fun b hb=>hb.elim,fun b hb=>hb.elim,fun b hb=>hb.elim,fun b hb=>hb.elim⟩,fun b hb=> .inr ⟨Nat.zero_le _,.inl (hMR.nw b hb).1⟩,fun g hg _=>hm'.old g hg,hm'.sz⟩,fun k' sv hk=> ?_,fun p x hp=> ?_,fun p q x y hp hq hne=> ?_,hS.df,hS.sz,hS.b0⟩
 ·have hk':(if mem cx.PV k'=true then (match bf cx en0 (iG ⟨ys,L.length,bs⟩) [] k' with
   |some _=>some (SV.ptr k' 0 true)
   |none=>none) else match ix cx.G k' with
    |some j=>some (SV.val (aW (iG ⟨ys,L.length,bs⟩) j))
    |none=>none)=some sv:=hk
  split at hk'
  ·rename_i hpv
   cases hc:bf cx en0 (iG ⟨ys,L.length,bs⟩) [] k' with
   |none=>rw [hc] at hk';cases hk'
   |some x=>
    rw [hc] at hk'
    simp only [Option.some.injEq] at hk'
    subst hk'
    obtain ⟨j,y,_,_,_,_,_,h6,_⟩:=hC k' x hc
    have:(aX cx en0 fr []).T k'=some (.ptr k' 0 true):=by
     show bU cx en0 fr [] k'=_
     unfold bU
     show (if mem cx.PV k'=true then (match bf cx en0 fr [] k' with
      |some _=>some (SV.ptr k' 0 true)
      |none=>none) else _)=_
     rw [hpv,h6];rfl
    exact hS.tm k' _ this
  ·rename_i hpv
   cases hj:ix cx.G k' with
   |none=>rw [hj] at hk';cases hk'
   |some j=>
    rw [hj] at hk'
    simp only [Option.some.injEq] at hk'
    subst hk'
    have hgj:=vL hj
    have hlt:j<m:=by rw [<-hm];exact (List.getElem?_eq_some_iff.1 hgj).1
    have:(aX cx en0 fr []).T k'=some (.val (aW fr j)):=by
     show bU cx en0 fr [] k'=_
     unfold bU
     show (if mem cx.PV k'=true then _ else match ix cx.G k' with
      |some j=>some (SV.val (aW fr j))
      |none=>none)=_
     rw [if_neg hpv,hj]
    exact Aw _ (hsl j hlt) (hS.tm k' _ this)
 ·obtain ⟨j,y,_,h2,rfl,h4,rfl,h6,_⟩:=hC p x hp
  obtain ⟨v1,⟨cells,ety,v2,_,u,v4,v5,v6⟩,v7⟩:=hS.vr p _ h6
  refine ⟨v1,⟨cells,ety,v2,h4,u,Aw _ (hsl j h2) v4,v5,v6⟩,fun i ⟨b,hb,hb'⟩=> ?_⟩
  rw [hρ i b hb];exact v7 b hb'
 ·obtain ⟨_,y1,_,_,_,_,_,h6,_⟩:=hC p x hp
  obtain ⟨_,y2,_,_,_,_,_,h7,_⟩:=hC q y hq
  exact hS.inj p q _ _ h6 h7 hne
def ER (e:Nat) (e':Exit):Prop:=if e=0 then e'= .normal else nH e e'
def T (P:Program) (cx:Cx) (nt:Nat) (c:Code) (S:bK) (Q:Exit->bK->Prop):Prop:=∀ w0 a w,Ay cx nt w0 S a w->c.wp P (fun e' a' w'=>∃ S',Q e' S'/\Ay cx nt w0 S' a' w') a w
def Me (cx:Cx) (f:FR) (S:bK) (q:List X) (e0:Nat) (L D:List Nat) (S':bK):R:=
 Gn S.fr 0 kr fun fr=>Gm S.bl 0 xS fun t=>f.f fr [] ⟨S.n,0,t,[],q⟩ fun e fr h=>ah (Nat.beq e e0) (aJ (List.length cx.G) fun m=>Ti m L D fr h fun ys bs=>some ((ys=S'.fr)::(bs=S'.bl)::h.fa)) none
def seg (cx:Cx) (sc:SCode) (S:bK) (q:List X) (e0:Nat) (L D:List Nat) (S':bK):R:=Me cx (jq cx sc en0 (iq cx 0)) S q e0 L D S'
section
variable {P:Program} {cx:Cx} {nt:Nat}
theorem anr {f:FR} {S S':bK} {q:List X} {e0:Nat} {L D:List Nat} (hG:cx.G.length<=64) (hn:S'.n=L.length) (hr:gU (Me cx f S q e0 L D S')):
  ∃ (l:List Prop) (k:Kc),f.f (iG S) [] (uh S q) k=some l/\∀ e fr h,k e fr h=some l->e=e0/\(∀ p ∈ h.fa,p)/\∀ w0 a w,At cx (B0 w0 nt) en0 fr [] h a w->Ay cx nt w0 S' a w:=by
 obtain ⟨l,e,hl⟩:=LW hr
 unfold Me at e
 rw [L9,L6] at e
 refine ⟨l,_,e,fun e1 fr h e2=> ?_⟩
 obtain ⟨h1,h2⟩:=aI e2
 obtain ⟨ys,bs,h3,h4⟩:=anq rfl hG h2
 have h3:=Option.some.inj h3
 subst h3
 have hy:ys=S'.fr:=hl _ (List.mem_cons_self ..)
 have hb:bs=S'.bl:=hl _ (List.mem_cons_of_mem _ (List.mem_cons_self ..))
 refine ⟨aC h1,fun p hp=>hl p (List.mem_cons_of_mem _ (List.mem_cons_of_mem _ hp)),fun w0 a w hA=> ?_⟩
 have:=h4 nt w0 a w hA
 rw [hy,hb,<-hn] at this
 exact this
theorem hle0 {w0:World} {S:bK} {q:List X}:aM (B0 w0 nt).fl (B0 w0 nt).h (uh S q):=⟨Nat.zero_le _,rfl,fun b hb=>absurd hb (Nat.not_lt_zero _),fun p hp=>by cases hp⟩
theorem ant (hcl:gu P cx.cl) (tZ:P.follows .mixedOrders=true) (hG:cx.G.length<=64) {c:Code} {sc:SCode} (hs:stripCode P c=some sc) (hok:jo nt cx.PV cx.FL sc=true) {S S':bK} {q:List X} {e0:Nat} {L D:List Nat} (hn:S'.n=L.length)
  (hr:gU (seg cx sc S q e0 L D S')):T P cx nt c S (fun e' S2=>ER e0 e'/\S2=S'):=by
 obtain ⟨l,k,e,hk⟩:=anr (nt:=nt) hG hn hr
 obtain ⟨e1,fr',h',g1,g2,g3⟩:=xZ hG (Lh hcl (Gh hcl) tZ hG c sc hs hok (Wf.zero cx) (Nat.zero_le _) e)
 obtain ⟨rfl,hfa,ht⟩:=hk e1 fr' h' g1
 intro w0 a w hA
 refine Code.wp_mono (fun e' a' w' hh=> ?_) (g3 hfa (B0 w0 nt) a w rfl hle0 rfl (hA.hp rfl rfl))
 exact ⟨S',⟨hh.1,rfl⟩,ht w0 a' w' hh.2⟩
theorem T.mono {c:Code} {S:bK} {Q Q':Exit->bK->Prop} (h:T P cx nt c S Q) (hq:∀ e S,Q e S->Q' e S):T P cx nt c S Q':=fun w0 a w hA=>
 Code.wp_mono (fun e a w ⟨S',h1,h2⟩=>⟨S',hq e S' h1,h2⟩) (h w0 a w hA)
theorem anu {c:Code} {x y:SCode} (h:stripCode P c=some (.seq x y)):∃ a b,c= .seq a b/\stripCode P a=some x/\stripCode P b=some y:=by
 cases c<;>simp only [stripCode] at h<;>(try (split at h))<;>(try (split at h))<;>simp at h
 obtain ⟨rfl,rfl⟩:=h
 exact ⟨_,_,rfl,by assumption,by assumption⟩
theorem anv {c:Code} {x:SCode} (h:stripCode P c=some (.loop x)):∃ a,c= .loop a/\stripCode P a=some x:=by
 cases c<;>simp only [stripCode] at h<;>(try (split at h))<;>(try (split at h))<;>simp at h
 subst h
 exact ⟨_,rfl,by assumption⟩
structure Pt (P:Program) (F:ai) (nt:Nat) (c:Code) (sc:SCode):Prop where
 st:stripCode P c=some sc
 ok:jo nt F.PV F.FL sc=true
theorem Pt.sq {F:ai} {c:Code} {sc:SCode} (h:Pt P F nt c sc) (e:sc= .seq (sL sc) (sR sc)):∃ a b,c= .seq a b/\Pt P F nt a (sL sc)/\Pt P F nt b (sR sc):=by
 obtain ⟨a,b,h1,h2,h3⟩:=anu (h.st.trans (congrArg some e))
 have h4:=h.ok
 rw [e] at h4
 simp only [jo,Bool.and_eq_true] at h4
 exact ⟨a,b,h1,⟨h2,h4.1⟩,⟨h3,h4.2⟩⟩
theorem Pt.lp {F:ai} {c:Code} {sc:SCode} (h:Pt P F nt c sc) (e:sc= .loop (sB sc)):∃ a,c= .loop a/\Pt P F nt a (sB sc):=by
 obtain ⟨a,h1,h2⟩:=anv (h.st.trans (congrArg some e))
 have h4:=h.ok
 rw [e] at h4
 simp only [jo] at h4
 exact ⟨a,h1,⟨h2,h4⟩⟩
theorem ER0 {e:Exit} (h:ER 0 e):e= .normal:=h
theorem ER.ne {n:Nat} {e:Exit} (h:ER n e) (hn:n≠0):nH n e:=by unfold ER at h;rwa [if_neg hn] at h
theorem nH.ret {e:Exit} (h:nH 1 e):e= .ret:=by
 rcases h with ⟨_,h⟩|⟨id,h,_⟩
 ·exact h
 ·omega
theorem nH.exit {id:Nat} {e:Exit} (h:nH (id+2) e):e= .exit id:=by
 rcases h with ⟨h,_⟩|⟨id',h,h'⟩
 ·omega
 ·have:id'=id:=by omega
  rw [h',this]
def Tj (e0:Nat) (S':bK):Exit->bK->Prop:=fun e S=>ER e0 e/\S=S'
section
variable {cl:Nat->FC} {F:ai}
theorem sg (hcl:gu P cl) (tZ:P.follows .mixedOrders=true) (hG:F.G.length<=64) {c:Code} {sc:SCode} (hp:Pt P F nt c sc) {S S':bK} {q:List X} {e0:Nat} {L D:List Nat} (hn:S'.n=L.length)
 (hr:gU (seg (fU cl F) sc S q e0 L D S')):T P (fU cl F) nt c S (Tj e0 S'):=ant hcl tZ hG hp.st hp.ok hn hr
end
end
end
end Go.M
namespace Go.M
open Go
open Go.Eng (SOp SOper SCode stripCode)
noncomputable section
variable [aY]
theorem anx (j:Nat):aW kr j=xU:=by
 show (pK Jy.get 4 5 j).g (f4 _)=_
 rw [L8]
 show (pK Jw.get 2 3 j).g (f4 _)=_
 rw [L8]
 show (pK Ju.get 0 1 j).g (f4 _)=_
 rw [L8];rfl
variable {P:Program}
end
end Go.M
namespace Go.M
open Go
open Go.Eng (SOp SOper SCode stripCode)
noncomputable section
variable [aY]
def lV (hk:Nat->FC) (code:Nat->Option ai) (l:Nat):Nat->FC:= @Nat.rec (fun _=>Nat->FC) hk
 (fun l ih g=> @Option.rec ai (fun _=>FC) (hk g) (fun F=>cnd (Fv F.Fs l) (rO ih F) (ih g)) (code g)) l
theorem Gp {P:Program} {hk:Nat->FC} {code:Nat->Option ai} (hh:gu P hk) (hc:∀ g F,code g=some F->aj P g F):∀ l,gu P (lV hk code l)
 |0=>hh
 |l+1=>fun g=>by
  have ih:=Gp hh hc l
  show iy P g (@Option.rec ai (fun _=>FC) (hk g) (fun F=>cnd (Fv F.Fs l) (rO (lV hk code l) F) (lV hk code l g)) (code g))
  cases hg:code g with
  |none=>exact hh g
  |some F=>
   show iy P g (cnd (Fv F.Fs l) (rO (lV hk code l) F) (lV hk code l g))
   cases Fv F.Fs l with
   |true=>exact Sd ih (fun cx nt hcx=>Gh (hcx▸ih)) (hc g F hg)
   |false=>exact ih g
theorem anz {P:Program} {g:Nat}:iy P g J8:=fun xs h k r _ e=>by cases e
theorem anA {cells:Array Value} {off:Nat} {v:Value} (h:off+1<=cells.size):Go.Eng.pasted cells off #[v]=cells.setIfInBounds off v:=by
 apply Array.ext_getElem?
 intro i
 rw [Go.Eng.iC _ _ _ (by simpa using h),Array.getElem?_setIfInBounds]
 simp only [List.size_toArray,List.length_cons,List.length_nil]
 by_cases h1:off=i
 ·subst h1
  rw [if_neg (by omega),if_pos (by omega),if_pos rfl,if_pos (by omega)];simp
 ·rw [if_neg h1]
  by_cases h2:i<off
  ·rw [if_pos h2]
  ·rw [if_neg h2,if_neg (by omega)]
theorem anB {x y:X} {h:Hp} {k:Kx} {r} (e:Cb 1 x y h k=some r):∃ h',k xU h'=some r/\aM h.fl h h'/\∀ w0 V w u v,MR w0 V h w->den V x u->den V y v->v.cells= #[v]->one v->
  ∃ a c,u= .pointer (some a)/\w.cell? a=some c/\w.frozen? a=false/\MR w0 V h' (w.setCell a v)/\Stp h.fl V h w V (w.setCell a v):=by
 obtain ⟨t,e1⟩:=xM e
 obtain ⟨ys,e2,hys⟩:=Cu e1
 obtain ⟨t1,e3⟩:=aI e2
 have t1:=aC t1
 rw [lM] at t1
 obtain ⟨bn,rows,hg,hk,e4⟩:=pU e3
 generalize hbe:x.n / 32 / 1048576=bb at*
 generalize hoe:x.n / 32 % 1048576=off at*
 have e5:(kR (Nat.div off (bn / 32))).f rows (fun row=>opn row fun rn cells _=>
  (jZ (Nat.mod off (bn / 32))).f cells ys fun cells=>(tq (Nat.div off (bn / 32))).f rows ⟨rn,cells,oZ⟩ fun rows=>j6 bb ⟨bn,rows,oZ⟩ h fun h=>k xU h)=some r:=e4
 obtain ⟨row,hq,e6⟩:=tH e5
 rw [fo] at e6
 obtain ⟨hj,e7⟩:=xH e6
 obtain ⟨xP,e8⟩:=EI e7
 obtain ⟨hfl,hb',e9⟩:=xI e8
 refine ⟨_,e9,.put hfl hb',fun w0 V w u v hm hx hv Tk hv1=> ?_⟩
 obtain ⟨hb,hx⟩:=(mK t).1 hx
 rw [hbe,hoe] at hx
 rw [hbe] at hb
 obtain ⟨hl,h1⟩:=hys V _ hv
 obtain ⟨_,h2,h3,h4,h5,cells,cty,h6,h7,hR⟩:=hm.rows hb hg hk
 rw [h2] at e9 e8 e7 e6 e5 e4 hj xP hq ⊢
 have hoff:off=Nat.div off (V.ε bb)*V.ε bb+Nat.mod off (V.ε bb):=(Nat.div_add_mod' off _).symm
 obtain ⟨_,hrl,_⟩:=hR _ row hq
 have hfit:off+1<=cells.size:=by
  rw [h7]
  have:(Nat.div off (V.ε bb)+1)*V.ε bb<=rows.length*V.ε bb:=Nat.mul_le_mul_right _ xP
  rw [Nat.add_mul,Nat.one_mul] at this
  omega
 have hpr:=hR.paste hq hj hl h1 (by rw [<-hoff,Tk];exact hfit) oZ
 rw [<-hoff,Tk,anA hfit] at hpr
 have hs:=heap_setCell_same w (V.ρ bb) off cells cty v h6
 obtain ⟨h8,h9⟩:=hm.turn (fl:=h.fl) (w':=w.setCell ⟨V.ρ bb,off,none⟩ v) (o':=oZ) hb hfl hg hk (fun k hk=>heap_setCell_other w ⟨V.ρ bb,off,none⟩ k v hk) (by simp [World.setCell];try (split<;>simp)) (by simp [World.setCell];try (split<;>rfl)) (by simp [World.setCell];try (split<;>rfl)) (by simp [World.setCell];try (split<;>rfl)) hs (by simpa using h7) (by simp) hpr
 refine ⟨_,cells[off],hx,?_,?_,h8,h9⟩
 ·simp only [World.cell?,h6]
  simp
 ·simp [World.frozen?,h6]
theorem Tn {x:X} {h:Hp} {k:Kx} {r} (e:xD false 1 x h k=some r):∃ c,k c h=some r/\∀ w0 V w u,MR w0 V h w->den V x u->∃ a v,u= .pointer (some a)/\w.cell? a=some v/\w.frozen? a=false/\den V c v:=by
 obtain ⟨t,e1⟩:=xM e
 obtain ⟨bn,rows,hg,hk,e2⟩:=pU e1
 generalize hbe:x.n / 32 / 1048576=b at*
 generalize hoe:x.n / 32 % 1048576=off at*
 have e3:(kR (Nat.div off (bn / 32))).f rows (fun row=>opn row fun rn cells _=>
  ah false (ah (Nat.beq 1 (bn / 32)) (ah (Nat.beq (Nat.mod off (bn / 32)) 0) (k ⟨rn,cells,oZ⟩ h) none) ((rz (Nat.mod off (bn / 32))).f cells fun c=>(takeB 1).f c fun c=>k ⟨Nat.add (Nat.mul 32 1) 2,c,oZ⟩ h))
   ((kR (Nat.mod off (bn / 32))).f cells fun c=>fF c h k))=some r:=e2
 obtain ⟨row,hq,e4⟩:=tH e3
 rw [fo] at e4
 have e5:((kR (Nat.mod off (bn / 32))).f row.l fun c=>fF c h k)=some r:=e4
 obtain ⟨c,hc,e6⟩:=tH e5
 rw [rF] at e6
 refine ⟨c,e6,fun w0 V w u hm hx=> ?_⟩
 obtain ⟨hb,hx⟩:=(mK t).1 hx
 rw [hbe,hoe] at hx
 rw [hbe] at hb
 obtain ⟨_,h2,_,_,_,cells,ty,h5,_,h6⟩:=hm.rows hb hg hk
 rw [<-h2] at h6
 obtain ⟨_,_,h7⟩:=h6 _ row hq
 obtain ⟨v,h8,_,h9⟩:=h7 _ c hc
 refine ⟨_,v,hx,?_,by simp [World.frozen?,h5],h9⟩
 simp only [World.cell?,h5]
 have:Nat.div off (bn / 32)*(bn / 32)+Nat.mod off (bn / 32)=off:=Nat.div_add_mod' off _
 rw [this] at h8
 simpa using h8
section
variable {P:Program} {f:Nat}
end
end
end Go.M
