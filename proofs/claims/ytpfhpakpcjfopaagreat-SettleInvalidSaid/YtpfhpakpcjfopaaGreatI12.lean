/-
  Part of a proof: lemmas and definitions of this work.
  No condition.
-/
import Derived.Test.YtpfhpakpcjfopaaGreatI11
import Derived.KernelRfl
set_option linter.all false
set_option maxRecDepth 100000
set_option maxHeartbeats 8000000
namespace Go.M
open Go
open Go.Eng (SOp SOper SCode stripCode)
noncomputable section
variable [aY]
def anC (cx:Cx) (res:List fP):Kc:=fun e fr h=>ah (Nat.ble e 1) ((iW cx res).f fr h fun ys=>eD ys none fun y t=>eD t (ah (Nat.beq y.n 33) (some h.fa) none) fun _ _=>none) none
def Gq (cx:Cx) (res:List fP) (sc:SCode) (S:bK) (q:List X):R:=Gn S.fr 0 kr fun fr=>Gm S.bl 0 xS fun t=>(jq cx sc en0 (iq cx 0)).f fr [] ⟨S.n,0,t,[],q⟩ (anC cx res)
section
variable {P:Program} {F:ai} {nt:Nat}
def TE (P:Program) (cx:Cx) (nt:Nat) (res:List fP) (c:Code) (S:bK):Prop:=∀ w0 a w,Ay cx nt w0 S a w->c.wp P (fun e' a' w'=>(e'= .normal\/e'= .ret)/\∃ fr h,At cx (B0 w0 nt) en0 fr [] h a' w'/\∃ l,(iW cx res).f fr h (fun ys=>eD ys none fun y t=>eD t (ah (Nat.beq y.n 33) (some h.fa) none) fun _ _=>none)=some l) a w
theorem iY {cx:Cx} {res:List fP} {x y:Code} {S S':bK} (hx:T P cx nt x S (Tj 0 S')) (hy:TE P cx nt res y S'):TE P cx nt res (.seq x y) S:=fun w0 a w hA=>
 wp_seq (Code.wp_mono (fun e a w ⟨S1,h1,h2⟩=>by
  have he:=ER0 h1.1
  subst he
  exact hy w0 a w (h1.2▸h2)) (hx w0 a w hA))
theorem Tp {cl:Nat->FC} (hcl:gu P cl) (tZ:P.follows .mixedOrders=true) (hG:F.G.length<=64) {c:Code} {sc:SCode} (hp:Pt P F nt c sc) {S:bK} {q:List X} {res:List fP}
  (hr:gU (Gq (fU cl F) res sc S q)):TE P (fU cl F) nt res c S:=by
 obtain ⟨l,e,hl⟩:=LW hr
 unfold Gq at e
 rw [L9,L6] at e
 obtain ⟨e1,fr',h',g1,g2,g3⟩:=xZ hG (Lh hcl (Gh hcl) tZ hG c sc hp.st hp.ok (Wf.zero (fU cl F)) (Nat.zero_le _) e)
 obtain ⟨h1,h2⟩:=aI (show ah (Nat.ble e1 1) _ none=some l from g1)
 have h1:e1<=1:=bI h1
 have hfa:∀ p ∈ h'.fa,p:=by
  obtain ⟨ys,h3,_⟩:∃ ys,(eD ys none fun y t=>eD t (ah (Nat.beq y.n 33) (some h'.fa) none) fun _ _=>none:R)=some l/\True:=by
   have:∀ (rs:List fP) (kk:List X->R),(iW (fU cl F) rs).f fr' h' kk=some l->∃ ys,kk ys=some l:=by
    intro rs
    induction rs with
    |nil=>intro kk h;exact ⟨[],h⟩
    |cons r rs ih=>
     intro kk h
     cases r with
     |tmp t=>
      have h':(@Option.rec Nat (fun _=>iV) ⟨fun _ _ _=>none⟩ (fun j=>⟨fun fr h k=>opn ((eP.get j).g fr) fun a m o=>(iW (fU cl F) rs).f fr h fun xs=>k (⟨a,m,o⟩::xs)⟩) (cnd (mem (fU cl F).PV t) none (ix (fU cl F).G t)):iV).f fr' h' kk=some l:=h
      cases hj:cnd (mem (fU cl F).PV t) none (ix (fU cl F).G t) with
      |none=>rw [hj] at h';cases h'
      |some j=>
       rw [hj] at h'
       have h2:opn (aW fr' j) (fun a m o=>(iW (fU cl F) rs).f fr' _ fun xs=>kk (⟨a,m,o⟩::xs))=some l:=h'
       rw [fo] at h2
       obtain ⟨ys,h3⟩:=ih _ h2
       exact ⟨_,h3⟩
     |cell t ag sz=>
      have h':(@Option.rec Nat (fun _=>iV) ⟨fun _ _ _=>none⟩ (fun j=>cnd (mem (fU cl F).PV t) ⟨fun fr h k=>aJ ((eP.get j).g fr).n fun m=>ah (Nat.beq m 14) none (ou ag 0 sz ((eP.get j).g fr) h fun x _=>(iW (fU cl F) rs).f fr h fun xs=>k (x::xs))⟩ ⟨fun _ _ _=>none⟩) (ix (fU cl F).G t):iV).f fr' h' kk=some l:=h
      cases hj:ix (fU cl F).G t with
      |none=>rw [hj] at h';cases h'
      |some j=>
       rw [hj] at h'
       cases hpv:mem (fU cl F).PV t with
       |false=>
        have h2:(cnd (mem (fU cl F).PV t) (⟨fun fr h k=>aJ ((eP.get j).g fr).n fun m=>ah (Nat.beq m 14) none (ou ag 0 sz ((eP.get j).g fr) h fun x _=>(iW (fU cl F) rs).f fr h fun xs=>k (x::xs))⟩:iV) ⟨fun _ _ _=>none⟩).f fr' _ kk=some l:=h'
        rw [hpv] at h2;cases h2
       |true=>
        have h2:(cnd (mem (fU cl F).PV t) (⟨fun fr h k=>aJ ((eP.get j).g fr).n fun m=>ah (Nat.beq m 14) none (ou ag 0 sz ((eP.get j).g fr) h fun x _=>(iW (fU cl F) rs).f fr h fun xs=>k (x::xs))⟩:iV) ⟨fun _ _ _=>none⟩).f fr' _ kk=some l:=h'
        rw [hpv] at h2
        have h3:ah (Nat.beq (aW fr' j).n 14) none (ou ag 0 sz (aW fr' j) _ fun x _=>(iW (fU cl F) rs).f fr' _ fun xs=>kk (x::xs))=some l:=h2
        rcases aF h3 with ⟨_,h4⟩|⟨_,h4⟩
        ·cases h4
        ·obtain ⟨y,h5,_⟩:=K6 h4
         obtain ⟨ys,h6⟩:=ih _ h5
         exact ⟨_,h6⟩
   obtain ⟨ys,h3⟩:=this _ _ h2
   exact ⟨ys,h3,trivial⟩
  match ys,h3 with
  |[y],h3=>
   have:=(aI (show ah (Nat.beq y.n 33) (some h'.fa) none=some l from h3)).2
   have:=Option.some.inj this
   rw [this];exact hl
 intro w0 a w hA
 refine Code.wp_mono (fun e' a' w' hh=>⟨?_,fr',h',hh.2,l,h2⟩) (g3 hfa (B0 w0 nt) a w rfl hle0 rfl (hA.hp rfl rfl))
 have hR:(if e1=0 then e'= .normal else nH e1 e'):=hh.1
 by_cases h0:e1=0
 ·rw [if_pos h0] at hR;exact .inl hR
 ·rw [if_neg h0] at hR
  rcases hR with ⟨_,h⟩|⟨id,h5,_⟩
  ·exact .inr h
  ·omega
end
section
variable {P:Program}
theorem anD {cl:Nat->FC} {g:FuncId} {F:ai} (hcl:gu P cl) (hF:aj P g F) (hok:okF F=true) {xs:List X} (hlen:xs.length=F.na)
  (hT:∀ c nt,Pt P F nt c F.sc->P.follows .mixedOrders=true->F.G.length<=64->TE P (fU cl F) nt F.res c ⟨xs,0,[]⟩) {vals:Array Value} (hv:aU Vz xs vals.toList) (w:World) (hΦ:aY.Φ w):
  Calls P g vals w fun e w'=>e= .returned (.bool true)/\Go.RowKit.Below w.heap.size w w':=by
 simp only [okF,Bool.and_eq_true,List.all_eq_true] at hok
 obtain ⟨ho1,ho2,ho3,Lj,Ll⟩:=hok
 generalize hcx:fU cl F=cx at hT
 have hc2:cx.G=F.G:=by subst hcx;rfl
 have hc3:cx.PV=F.PV:=by subst hcx;rfl
 have vU:F.G.length<=64:=bI ho3
 have hna:F.na<=8:=bI Lj
 obtain ⟨⟨fn,c,q1,q2,q3,q4,q5,q6,q7,q8⟩,tZ⟩:=hF
 have hT:=hT c fn.ntmps ⟨q4,q8⟩ tZ vU
 have hvl:vals.size=F.na:=by have:=jh hv;simp at this;omega
 have Da:∀ j,j<64->aW (iG ⟨xs,0,[]⟩) j=if j<F.na then xs.getD j rM else xU:=fun j hj=>by
  show aW (vY xs 0 kr) j=_
  rw [Ma xs 0 kr j (by omega) hj,if_neg (by omega),Nat.sub_zero,anx,List.getD_eq_getElem?_getD]
  by_cases h:j<F.na
  ·rw [if_pos h,List.getElem?_eq_getElem (by omega)];rfl
  ·rw [if_neg h,List.getElem?_eq_none (by omega)]
 have hm:MR w Vz (uh ⟨xs,0,[]⟩ []) w:=⟨fun b hb=>hb.elim,fun b hb=>hb.elim,fun b b' hb=>hb.elim,fun b hb=>hb.elim,fun _ _=>rfl,Nat.le_refl _,rfl,rfl,rfl,hΦ⟩
 have hA:Ay cx fn.ntmps w ⟨xs,0,[]⟩ {tmps:=vals++Array.replicate (fn.ntmps - vals.size) undef,defers:=[]} w:=by
  have yc:∀ p,bf cx en0 (iG ⟨xs,0,[]⟩) [] p=none:=fun p=>by
   show (if mem cx.PV p=true then match ix cx.G p with
    |some j=>if (aW (iG ⟨xs,0,[]⟩) j).n=14 then none else some (aW (iG ⟨xs,0,[]⟩) j)
    |none=>none
    else none)=none
   split
   ·rename_i hpv
    cases hj:ix cx.G p with
    |none=>rfl
    |some j=>
     have hgj:=vL hj
     have yg:j<64:=Nat.lt_of_lt_of_le (List.getElem?_eq_some_iff.1 hgj).1 (hc2▸vU)
     have amU:F.na<=p:=bI (Ll p ((mem_iff F.PV p).1 (by rw [<-hc3];exact hpv)))
     have hjn:¬ j<F.na:=fun hlt=>by
      have:=x9 ho1 j hlt
      rw [hc2,this] at hgj
      simp only [Option.some.injEq] at hgj
      omega
     simp only [Da j yg,if_neg hjn,if_true]
   ·rfl
  refine ⟨Vz,fun _=>0,hm,.refl ..,fun k' sv hk=> ?_,fun p y hp=> ?_,fun p q y z hp=> ?_,rfl,?_,Nat.le_refl _⟩
  ·have hk':(if mem cx.PV k'=true then (match bf cx en0 (iG ⟨xs,0,[]⟩) [] k' with
    |some _=>some (SV.ptr k' 0 true)
    |none=>none) else match ix cx.G k' with
     |some j=>some (SV.val (aW (iG ⟨xs,0,[]⟩) j))
     |none=>none)=some sv:=hk
   rw [yc] at hk'
   split at hk'
   ·cases hk'
   ·cases hj:ix cx.G k' with
    |none=>rw [hj] at hk';cases hk'
    |some j=>
     rw [hj] at hk'
     simp only [Option.some.injEq] at hk'
     subst hk'
     have hgj:=vL hj
     have yg:j<64:=Nat.lt_of_lt_of_le (List.getElem?_eq_some_iff.1 hgj).1 (hc2▸vU)
     show den Vz (aW (iG ⟨xs,0,[]⟩) j) ((vals++Array.replicate (fn.ntmps - vals.size) undef).getD k' undef)
     rw [Da j yg]
     by_cases hlt:j<F.na
     ·rw [if_pos hlt]
      have:=x9 ho1 j hlt
      rw [hc2,this] at hgj
      simp only [Option.some.injEq,Nat.zero_add] at hgj
      subst hgj
      obtain ⟨v,h1,h2⟩:=mJ hv (i:=j) (x:=xs.getD j rM) (by rw [List.getD_eq_getElem?_getD,List.getElem?_eq_getElem (by omega)];rfl)
      have Lm:vals[j]? =some v:=by simpa using h1
      rw [Array.getD_eq_getD_getElem?,Array.getElem?_append,if_pos (by omega),Lm]
      exact h2
     ·rw [if_neg hlt]
      have hkn:¬ k'<F.na:=fun hk=>by
       have h1:=x9 ho1 k' hk
       rw [Nat.zero_add] at h1
       have h2:=Li ho2 h1
       rw [<-hc2,hj] at h2
       simp only [Option.some.injEq] at h2
       omega
      have:(vals++Array.replicate (fn.ntmps - vals.size) undef).getD k' undef=undef:=by
       rw [Array.getD_eq_getD_getElem?,Array.getElem?_append,if_neg (by omega)]
       rcases Nat.lt_or_ge (k' - vals.size) (fn.ntmps - vals.size) with hh|hh
       ·simp [hh]
       ·rw [Array.getElem?_eq_none (by simpa using hh)];rfl
      rw [this]
      exact mU
  ·have hp':bf cx en0 (iG ⟨xs,0,[]⟩) [] p=some y:=hp
   rw [yc] at hp';cases hp'
  ·have hp':bf cx en0 (iG ⟨xs,0,[]⟩) [] p=some y:=hp
   rw [yc] at hp';cases hp'
  ·show (vals++Array.replicate (fn.ntmps - vals.size) undef).size=fn.ntmps
   simp only [Array.size_append,Array.size_replicate]
   omega
 refine calls_of_wp q1 q3 (Code.wp_mono (fun ex a' w' hh=> ?_) (hT w _ w hA))
 obtain ⟨h2,fr,h,⟨V',γ',hS⟩,l,e⟩:=hh
 obtain ⟨ys,e2,hys⟩:=F4 fn.results.toList q5 e
 obtain ⟨y,rfl,hy⟩:∃ y,ys=[y]/\y.n=33:=by
  match ys,e2 with
  |[y],e2=>exact ⟨y,rfl,aC (aI (show ah (Nat.beq y.n 33) (some h.fa) none=some l from e2)).1⟩
 obtain ⟨vs,z1,z2,z3⟩:=hys (B0 w fn.ntmps) V' γ' a' w' hS
 obtain ⟨v,r',rfl,z4,z5⟩:=dz.1 z2
 have:=dA.1 z5
 subst this
 have hb:=vk hy z4
 have hfin:a'.defers=[]/\∃ v',(results fn a'.tmps).run P w'= .ok v' w'/\Ending.returned v'= .returned (.bool true)/\Go.RowKit.Below w.heap.size w w':=
  ⟨hS.df,v,by have:=Bw a'.tmps w' rfl z1 q6 z3;simpa using this,by rw [hb],⟨hS.mr.os,hS.mr.tape,hS.mr.output,hS.mr.sz,fun k hk=>hS.mr.old k hk⟩⟩
 rcases h2 with rfl|rfl<;>exact hfin
end
end
end Go.M
namespace Go.M
open Go
noncomputable section
def rW (a:Option Addr) (len cap:Nat) (zs:List Int) (w:World):Prop:=
 (a=none/\len=0/\cap=0/\zs=[])\/∃ x,a=some x/\len<=cap/\zs.length=cap/\∀ i,i<zs.length->w.cell? (x.add i)=some (.int .i64 (zs.getD i 0))
def Gr (w0 w:World):Prop:=∀ g,g<w0.heap.size->w.heap[g]? =w0.heap[g]?
theorem Tq {w0 w:World} {a:Addr} {v:Value} (ho:Gr w0 w) (h:w0.cell? a=some v):w.cell? a=some v:=by
 unfold World.cell? at h ⊢
 cases hg:w0.heap[a.block]? with
 |none=>rw [hg] at h;cases h
 |some o=>
  have hlt:=(Array.getElem?_eq_some_iff.1 hg).1
  rw [ho _ hlt];exact h
theorem rW.keep {a:Option Addr} {len cap:Nat} {zs:List Int} {w0 w:World} (h:rW a len cap zs w0) (ho:Gr w0 w):rW a len cap zs w:=by
 rcases h with h|⟨x,h1,h2,h3,h4⟩
 ·exact .inl h
 ·exact .inr ⟨x,h1,h2,h3,fun i hi=>Tq ho (h4 i hi)⟩
def aS (zs:List Int) (n0 i n:Nat):Int:=if i<n0 then (zs.getD i 0) % (n:Int) else 0
def aD (n0 i:Nat):Nat:=if i<n0 then i+1 else i
theorem anE (zs:List Int) (n0 i:Nat) {n:Nat} (h:0<n):0<=aS zs n0 i n/\aS zs n0 i n<n:=by
 unfold aS
 split
 ·exact ⟨Int.emod_nonneg _ (by omega),Int.emod_lt_of_pos _ (by omega)⟩
 ·omega
def yw (L:Value) (n0:Nat) (zs:List Int) (lx ax nx v c:X):Prop:=lx=⟨13,[],L⟩/\∃ i:Nat,dL ax=some (.int .i64 i)/\i<=n0/\dL v=some (.int .i64 (aS zs n0 i (nx.n / 32)))/\dL c=some (.int .i64 (aD n0 i:Nat))
def vZ (p:X):X:=⟨Nat.add p.n 32,[],oZ⟩
def Gs (L:Value) (n0:Nat) (zs:List Int):FC:=⟨fun xs h k=>eD xs none fun p t=>eD t none fun nx t2=>eD t2 (ah (Nat.beq (Nat.land nx.n 31) 0) (ah (Nat.ble 32 nx.n) (ah (Nat.ble nx.n 32000000) (ah (Nat.beq (Nat.land (Nat.shiftRight p.n 5) 1048575) 0)
 (xD false 1 p h fun lx h=>xD false 1 (vZ p) h fun ax h=>iU (fun _=>True) h fun v h=>iU (fun c=>yw L n0 zs lx ax nx v c) h fun c h=>Cb 1 (vZ p) c h fun _ h=>k v h) none) none) none) none) fun _ _=>none⟩
def Gt (L0 L:Value):FC:=⟨fun xs h k=>eD xs none fun x t=>eD t (iU (fun _=>x=⟨13,[],L0⟩) h fun _ h=>tC ⟨65,[⟨66,[⟨13,[],L⟩,aK 0],oZ⟩],oZ⟩ h k) fun _ _=>none⟩
variable [aY]
theorem anF {w:World} {a:Addr} {v:Value} (h:w.cell? a=some v):w.setCell a v=w:=by
 unfold World.cell? at h
 cases hg:w.heap[a.block]? with
 |none=>rw [hg] at h;cases h
 |some o=>
  rw [hg] at h
  cases o with
  |cells c t f=>
   simp only at h
   split at h
   ·cases h
   ·rename_i hsp
    have hh:w.heap.modify a.block (fun o=>match o with
     | .cells c elem frozen=> .cells (if a.spot.isSome then c else c.setIfInBounds a.off v) elem frozen
     |o=>o)=w.heap:=by
     apply Array.ext_getElem?
     intro i
     rw [Array.getElem?_modify]
     by_cases e:a.block=i
     ·subst e
      rw [if_pos rfl,hg]
      simp only [Option.map_some,hsp,Bool.false_eq_true,if_false]
      congr 2
      apply Array.ext_getElem?
      intro j
      rw [Array.getElem?_setIfInBounds]
      by_cases e2:a.off=j
      ·subst e2
       have hlt:=(Array.getElem?_eq_some_iff.1 h).1
       rw [if_pos rfl,if_pos hlt,h]
      ·rw [if_neg e2]
     ·rw [if_neg e]
    show {w with heap:=_}=w
    exact congrArg (fun x=>{w with heap:=x}) hh
  |_=>cases h
theorem MR.same {w0:World} {V:Vw} {h:Hp} {w w':World} (hm:MR w0 V h w) (hh:w'.heap=w.heap) (ho:w'.os=w.os) (ht:w'.tape=w.tape) (hu:w'.output=w.output):MR w0 V h w':=
 ⟨hm.nb,fun b hb=>(hm.bl b hb).world (by rw [hh]),hm.inj,fun b hb=>by rw [hh];exact hm.nw b hb,fun g hg=>by rw [hh];exact hm.old g hg,by rw [hh];exact hm.sz,ho.trans hm.os,ht.trans hm.tape,hu.trans hm.output,hm.ar⟩
theorem anG {V:Vw} {p:X} {u:Value} (h:den V p u) (ht:p.n % 32=7) (h0:p.n / 32 % 1048576=0):∃ a:Addr,u= .pointer (some a)/\den V (vZ p) (.pointer (some (a.add 1)))/\∃ b,V.S b/\a.block=V.ρ b:=by
 obtain ⟨hb,rfl⟩:=(mK ht).1 h
 refine ⟨_,rfl,(mK (x:=vZ p) (by show (p.n+32) % 32=7;omega)).2 ?_,_,hb,rfl⟩
 have e1:(vZ p).n / 32 / 1048576=p.n / 32 / 1048576:=by show (p.n+32) / 32 / 1048576=_;omega
 have e2:(vZ p).n / 32 % 1048576=1:=by show (p.n+32) / 32 % 1048576=_;omega
 rw [e1,e2,h0]
 exact ⟨hb,rfl⟩
section
variable {P:Program} {f:Nat}
theorem anH {L:Value} {n0:Nat} {zs:List Int} (hE:Enters P f)
  (hc:∀ (p:Addr) (i n:Nat) (w w0:World),aY.Φ w0->Gr w0 w->w0.heap.size<=p.block->w.cell? p=some L->w.cell? (p.add 1)=some (.int .i64 i)->w.frozen? (p.add 1)=false->i<=n0->0<n->n<=1000000->Calls P f #[.pointer (some p),.int .i64 n] w fun e w'=>
   e= .returned (.int .i64 (aS zs n0 i n))/\w'.heap=(w.setCell (p.add 1) (.int .i64 ((aD n0 i:Nat):Int))).heap/\w'.os=w.os/\w'.tape=w.tape/\w'.output=w.output):
  iy P f (Gs L n0 zs):=fun xs h k r _ e=>by
 match xs,e with
 |[p,nx],e=>
  obtain ⟨t1,e1⟩:=aI (show ah (Nat.beq (Nat.land nx.n 31) 0) (ah (Nat.ble 32 nx.n) (ah (Nat.ble nx.n 32000000) (ah (Nat.beq (Nat.land (Nat.shiftRight p.n 5) 1048575) 0)
   (xD false 1 p h fun lx h=>xD false 1 (vZ p) h fun ax h=>iU (fun _=>True) h fun v h=>iU (fun c=>yw L n0 zs lx ax nx v c) h fun c h=>Cb 1 (vZ p) c h fun _ h=>k v h) none) none) none) none=some r from e)
  obtain ⟨t2,e2⟩:=aI e1
  obtain ⟨t4,e2⟩:=aI e2
  have t4:nx.n<=32000000:=bI t4
  obtain ⟨t3,e3⟩:=aI e2
  have t1:nx.n % 32=0:=by rw [<-jD];exact aC t1
  have t2:32<=nx.n:=bI t2
  have t3:p.n / 32 % 1048576=0:=by
   have:=aC t3
   have h1:Nat.land (Nat.shiftRight p.n 5) 1048575=Nat.shiftRight p.n 5 % 1048576:=Nat.and_two_pow_sub_one_eq_mod _ 20
   rw [h1,shr] at this;exact this
  have tp:p.n % 32=7:=(xM (show (zO p _)=some r from e3)).1
  obtain ⟨lx,e4,g1⟩:=Tn e3
  obtain ⟨ax,e5,g2⟩:=Tn e4
  obtain ⟨v,q2,e7⟩:=tL e5
  obtain ⟨c,q3,e8⟩:=tL e7
  have hle:aM h.fl h (vo (vo h q2 True) q3 (yw L n0 zs lx ax nx v c)):=aM.fG.trans aM.fG
  generalize hh:vo (vo h q2 True) q3 (yw L n0 zs lx ax nx v c)=h3 at e8 hle
  have hmr:∀ {w0 V w},MR w0 V h w->MR w0 V h3 w:=fun hm=>by rw [<-hh];exact hm.fG.fG
  have hfl:h3.fl=h.fl:=hle.fe
  obtain ⟨h',e10,l1,l2⟩:=anB e8
  refine ⟨v,h',e10,hle.trans (by rw [<-hfl];exact l1),fun hf w0 V w vals hm hv=>⟨hE,?_⟩⟩
  have hD:yw L n0 zs lx ax nx v c:=hf _ (l1.fa _ (by rw [<-hh];exact List.mem_cons_self ..))
  obtain ⟨u,r1,hv1,d1,hv2⟩:=dz.1 hv
  obtain ⟨u2,r2,rfl,d2,hv3⟩:=dz.1 hv2
  have:=dA.1 hv3
  subst this
  have wL:vals= #[u,u2]:=Array.toList_inj.1 (by simpa using hv1)
  have h2:=(dO t1).1 d2
  obtain ⟨a,hu,dp,bb,hbb,hbk⟩:=anG d1 tp t3
  obtain ⟨a',v1,hu',c1,_,dl⟩:=g1 w0 V w u hm d1
  rw [hu] at hu';cases hu'
  obtain ⟨a2,v2,hu2,c2,c3,da⟩:=g2 w0 V w _ hm dp
  cases hu2
  obtain ⟨hlx,i,f1,f2,f4,f5⟩:=hD
  rw [hlx] at dl
  have Mf:=((jY (x:=⟨13,[],L⟩) (.inr rfl)).1 dl).1
  have anI:=jk f1 da
  have Mf:v1=L:=Mf
  subst Mf anI
  rw [wL,hu,h2]
  obtain ⟨a',c',ha,_,_,m1,m2⟩:=l2 w0 V w _ (.int .i64 ((aD n0 i:Nat):Int)) (hmr hm) dp (xK f5 rfl) rfl rfl
  cases ha
  refine (hc a i (nx.n / 32) w w0 hm.ar hm.old (by rw [hbk];exact (hm.nw bb hbb).1) c1 c2 c3 f2 (by omega) (by omega)).mono fun e w' ⟨he,hw,ho,htp,hou⟩=> ?_
  have hs:∀ (w:World) (a:Addr) (v:Value),(w.setCell a v).os=w.os/\(w.setCell a v).tape=w.tape/\(w.setCell a v).output=w.output:=fun w a v=>⟨rfl,rfl,rfl⟩
  obtain ⟨s1,s2,s3⟩:=hs w (a.add 1) (.int .i64 ((aD n0 i:Nat):Int))
  refine ⟨_,V,he,m1.same hw (ho.trans s1.symm) (htp.trans s2.symm) (hou.trans s3.symm),xK f4 rfl,⟨m2.ext,fun b hb=>(m2.new b hb).imp id fun hh=>⟨Nat.le_trans hle.n hh.1,hh.2.imp id fun ⟨b0,x1,x2,x3⟩=>⟨b0,x1,hfl▸x2,x3⟩⟩,fun g hg hk=> ?_,by rw [hw];exact m2.size⟩⟩
  rw [hw];exact m2.keep g hg fun b hb hf=>hk b hb (hfl▸hf)
theorem anJ {L0 L:Value} (hE:Enters P f) (h1:one L) (hc:∀ w:World,Calls P f #[L0] w fun e w'=>e= .returned (.pointer (some ⟨w.heap.size,0,none⟩))/\∃ ety,w'=w.alloc (.cells #[L,.int .i64 0] ety)):iy P f (Gt L0 L):=fun xs h k r _ e=>by
 match xs,e with
 |[x],e=>
  obtain ⟨b,q,e1⟩:=tL (show iU (fun _=>x=⟨13,[],L0⟩) h (fun _ h=>tC ⟨65,[⟨66,[⟨13,[],L⟩,aK 0],oZ⟩],oZ⟩ h k)=some r from e)
  obtain ⟨hn,y,e2,hy⟩:=EQ e1
  refine ⟨y,_,e2,aM.fG.trans (.al _ _ _ hn),fun hf w0 V w vals hm hv=>⟨hE,?_⟩⟩
  have hx:x=⟨13,[],L0⟩:=hf _ (List.mem_cons_self ..)
  obtain ⟨u,r1,hv1,d1,hv2⟩:=dz.1 hv
  have:=dA.1 hv2
  subst this
  have wL:vals= #[u]:=Array.toList_inj.1 (by simpa using hv1)
  subst wL
  rw [hx] at d1
  have hu:=((jY (x:=⟨13,[],L0⟩) (.inr rfl)).1 d1).1
  have hu:u=L0:=hu
  subst hu
  refine (hc w).mono fun e w' ⟨he,ety,hw⟩=> ?_
  subst hw
  have hl:aU V [⟨13,[],L⟩,aK 0] [L,.int .i64 0]:=dz.2 ⟨L,_,rfl,(jY (x:=⟨13,[],L⟩) (.inr rfl)).2 ⟨rfl,h1⟩,dz.2 ⟨_,[],rfl,(dO (x:=aK 0) rfl).2 rfl,dA.2 rfl⟩⟩
  obtain ⟨v',w2,V',g1,g2,g3,g4⟩:=J4 (h:=vo h q (x=⟨13,[],u⟩)) (x:=y) (n:=65) (rn:=66) (ro:=oZ) (bo:=oZ) (P:=P) (ety:=ety) (w:=w) hm.fG hn hl (fun v hv=>by
   rcases List.mem_cons.1 hv with rfl|hv
   ·exact h1
   ·rcases List.mem_cons.1 hv with rfl|hv
    ·rfl
    ·cases hv) (by simp) (by simp) (by simp) hy #[L,.int .i64 0] rfl h.fl
  rcases g1 with g1|⟨_,g1⟩
  ·cases g1
   subst hx
   exact ⟨_,V',he,g2,g3,⟨g4.ext,g4.new,g4.keep,g4.size⟩⟩
  ·cases g1
end
end
end Go.M
namespace Go.M
open Go
noncomputable section
class aB where
 a:Option Addr
 len:Nat
 cap:Nat
 zs:List Int
 h:len<=cap
 ψ:World->Prop
 tk:Value
instance ayE [l:aB]:aY:=⟨fun w=>rW l.a l.len l.cap l.zs w/\l.ψ w⟩
def aA [l:aB]:Nat:=if l.len<=4000 then l.len else 4000
def fK [l:aB]:List Int:=l.zs
def gV [l:aB]:Value:= .slice l.a l.len l.cap
def fM [l:aB]:Value:= .slice l.a aA l.cap
section
variable [l:aB]
theorem anK:aA<=4000:=by unfold aA;split<;>omega
theorem Tt:aA<=l.len:=by unfold aA;split<;>omega
theorem anL:aA<=l.cap:=Nat.le_trans Tt l.h
theorem anM:one fM:=rfl
theorem anN (h:l.len<=4000):fM= .slice l.a l.len l.cap:=by unfold fM aA;rw [if_pos h]
theorem anO (h:4000<l.len):fM= .slice l.a 4000 l.cap:=by unfold fM aA;rw [if_neg (by omega)]
theorem anP {x:Addr} (h:l.a=some x):fM= .slice (some x) aA l.cap:=by unfold fM;rw [h]
theorem anQ {i n:Nat} (h:i<aA):aS fK aA i n=fK.getD i 0 % (n:Int):=if_pos h
theorem anR {i n:Nat} (h:¬ i<aA):aS fK aA i n=0:=if_neg h
theorem anS {i:Nat} (h:i<aA):((aD aA i:Nat):Int)=(i:Int)+1:=by unfold aD;rw [if_pos h];rfl
theorem anT {i:Nat} (h:¬ i<aA):((aD aA i:Nat):Int)=(i:Int):=by unfold aD;rw [if_neg h]
theorem anU {w:World} {a:Addr} {v:Value} (h:w.cell? a=some v):a.block<w.heap.size:=by
 unfold World.cell? at h
 cases hg:w.heap[a.block]? with
 |none=>rw [hg] at h;cases h
 |some o=>exact (Array.getElem?_eq_some_iff.1 hg).1
theorem cell_spot {w:World} {b o:Nat} {s v} (h:w.cell? ⟨b,o,s⟩=some v):s=none:=by
 unfold World.cell? at h
 split at h
 ·split at h
  ·cases h
  ·rename_i hs
   cases s with
   |none=>rfl
   |some x=>exact absurd rfl hs
 ·cases h
theorem rW.some {w0:World} (h:aY.Φ w0) {i:Nat} (hi:i<aA):∃ b o,l.a=some ⟨b,o,none⟩/\w0.cell? ⟨b,o+i,none⟩=some (.int .i64 (fK.getD i 0))/\b<w0.heap.size:=by
 have h:rW l.a l.len l.cap l.zs w0:=h.1
 have h0:=Tt (l:=l)
 rcases h with ⟨_,h2,_⟩|⟨⟨b,o,s⟩,h1,h2,h3,h4⟩
 ·omega
 ·have c0:=h4 0 (by omega)
  have c0:w0.cell? ⟨b,o,s⟩=Option.some (.int .i64 (fK.getD 0 0)):=c0
  obtain rfl:s=none:=cell_spot c0
  have c1:=h4 i (by omega)
  have e:(⟨b,o,none⟩:Addr).add i=⟨b,o+i,none⟩:=by
   unfold Addr.add
   split
   ·rename_i hi;subst hi;rfl
   ·rfl
  rw [e] at c1
  exact ⟨b,o,h1,c1,anU c1⟩
end
end
end Go.M
namespace Go.M
open Go
variable [aY]
theorem dS {q:IntKind} {b:Int}:dL ⟨13,[],.int q b⟩=some (.int q b):=by kernel_rfl
theorem dN {N m:Nat} (h:N=32*m):dL ⟨N,[],oZ⟩=some (.int .i64 (m:Int)):=by
 unfold dL
 have h1:Nat.land N 31=0:=by rw [jD];omega
 have h2:Nat.shiftRight N 5=m:=by rw [shr];show N / 32=m;omega
 simp only [h1,h2]
 rfl
theorem dvT:dL ⟨33,[],oZ⟩=some (.bool true):=by kernel_rfl
theorem dvF:dL ⟨1,[],oZ⟩=some (.bool false):=by kernel_rfl
section
variable {A B C:X} {x y z:Int} {q:IntKind}
theorem Tv {op:BinOp} {c:Bool} (hA:dL A=some (.int q x)) (hB:dL B=some (.int q y)) (hC:dL C=some (.bool c)) (h:bP op (.int q x) (.int q y)=some (.bool c)):pQ op A B C:=⟨_,_,_,hA,hB,hC,rfl,h⟩
theorem anX (hA:dL A=some (.int q x)) (hB:dL B=some (.int q y)) (h:y<x):pQ .gtr A B ⟨33,[],oZ⟩:=Tv hA hB dvT (by
 show (if q=q then some (Value.bool (decide (y<x))) else none)=_
 rw [if_pos rfl,decide_eq_true h])
theorem anY (hA:dL A=some (.int q x)) (hB:dL B=some (.int q y)) (h:¬ y<x):pQ .gtr A B ⟨1,[],oZ⟩:=Tv hA hB dvF (by
 show (if q=q then some (Value.bool (decide (y<x))) else none)=_
 rw [if_pos rfl,decide_eq_false h])
end
end Go.M
namespace Go.M
open Go
noncomputable section
theorem Az {n0 i:Nat} (h:i<=n0):aD n0 i<=n0:=by unfold aD;split<;>omega
theorem kF (zs:List Int) (n0 i n:Nat) (hn:0<n):∃ m:Nat,aS zs n0 i n=(m:Int)/\m<n:=by
 obtain ⟨h1,h2⟩:=anE zs n0 i hn
 obtain ⟨m,h⟩:=Int.eq_ofNat_of_zero_le h1
 exact ⟨m,h,by omega⟩
theorem Tw [aY] (n:Nat):dL ⟨32*n,[],oZ⟩=some (.int .i64 (n:Int)):=by
 have:=dN (m:=n) (N:=32*n) rfl
 exact this
theorem jH [aY] {L:Value} {n0:Nat} {zs:List Int} {i n m nn vn:Nat} {ax:X} (ha:dL ax=some (.int .i64 (i:Int))) (hi:i<=n0) (h:aS zs n0 i n=(m:Int)) (hn:nn=32*n) (hv:vn=32*m):yw L n0 zs ⟨13,[],L⟩ ax ⟨nn,[],oZ⟩ ⟨vn,[],oZ⟩ ⟨13,[],.int .i64 ((aD n0 i:Nat):Int)⟩:=by
 subst hn hv
 refine ⟨rfl,i,ha,hi,?_,dS⟩
 rw [show (⟨32*n,[],oZ⟩:X).n / 32=n from by show 32*n / 32=n;omega,h]
 exact Tw m
variable [aY]
end
end Go.M
namespace Go.M
open Go
noncomputable section
def AA (Q:X->X->Prop) (fc:FC):FC:=⟨fun xs h k=>eD xs none fun x t=>eD t (ah (rC x) (iU (Q x) h k) (fc.f xs h k)) fun _ _=>none⟩
variable [aY]
theorem anZ {P:Program} {g:Nat} {Q:X->X->Prop} {fc:FC} (hE:Enters P g) (hf:iy P g fc)
  (hq:∀ x y w0 w,Q x y->aY.Φ w0->Gr w0 w->w0.heap.size<=w.heap.size->Calls P g #[x.o] w fun e w'=>∃ v,e= .returned v/\(∀ V,den V y v)/\Go.RowKit.Below w.heap.size w w'):iy P g (AA Q fc):=fun xs h k r hl e=>by
 match xs,e with
 |[x],e=>
  rcases aF (show ah (rC x) (iU (Q x) h k) (fc.f [x] h k)=some r from e) with ⟨t,e1⟩|⟨_,e1⟩
  ·obtain ⟨y,q,e2⟩:=tL e1
   refine ⟨y,_,e2,.fG,fun hfa w0 V w vals hm hv=>⟨hE,?_⟩⟩
   have hQ:Q x y:=hfa _ (List.mem_cons_self ..)
   obtain ⟨u,r1,hv1,d1,hv2⟩:=dz.1 hv
   have:=dA.1 hv2
   subst this
   have wL:vals= #[u]:=Array.toList_inj.1 (by simpa using hv1)
   subst wL
   obtain rfl:u=x.o:=((jY (.inr (bJ t))).1 d1).1
   refine (hq x y w0 w hQ hm.ar (fun g hg=>hm.old g hg) hm.sz).mono fun e w' ⟨v,he,hd,hb⟩=>⟨v,V,he,MR.fG ?_,hd V,⟨.refl V,fun b hb=> .inl hb,fun g hg _=>hb.block g hg,hb.size⟩⟩
   exact ⟨hm.nb,fun b hb'=>(hm.bl b hb').world (hb.block _ (hm.nw b hb').2),hm.inj,fun b hb'=>⟨(hm.nw b hb').1,Nat.lt_of_lt_of_le (hm.nw b hb').2 hb.size⟩,fun g hg=>by rw [hb.block g (Nat.lt_of_lt_of_le hg hm.sz)];exact hm.old g hg,Nat.le_trans hm.sz hb.size,by rw [hb.os,hm.os],by rw [hb.tape,hm.tape],by rw [hb.output,hm.output],hm.ar⟩
  ·exact hf _ _ _ _ hl e1
end
end Go.M
