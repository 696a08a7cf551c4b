/-
  Part of a proof: lemmas and definitions of this work.
  No condition.
-/
import Derived.WalkKit
set_option linter.all false
set_option maxRecDepth 100000
set_option maxHeartbeats 8000000
namespace Go.Eng
open Go
inductive AV where
 |v (x:Value)
 |agg (cs:List AV)
 |aT (vs:List AV)
 |sl (sz:Nat) (xs:List (List AV))
 |own (b sz off len:Nat)
 |ptr (b j:Nat)
 |rp (b sz k j:Nat)
 |bW (cs:List AV) (j:Nat)
 |mp (b:Nat)
 |fn (f:FuncId) (caps:List AV)
instance:Inhabited AV:=⟨.v undef⟩
inductive Ob where
 |box (cs:List AV)
 |row (e:TypeId) (sz:Nat) (xs:List (List AV))
 |map (es:List (Value×AV))
 |dead
inductive Loc where
 |dead
 |nil
 |at (g o n:Nat)
def get {α:Type}:List (Nat×α)->Nat->Option α
 |[],_=>none
 |(j,x)::l,k=>if j=k then some x else get l k
@[simp] theorem get_nil {α:Type} (k:Nat):get ([]:List (Nat×α)) k=none:=rfl
theorem rX {α:Type} (k:Nat) (x:α) (l:List (Nat×α)):get ((k,x)::l) k=some x:=by simp [get]
theorem lW {α:Type} (j k:Nat) (x:α) (l:List (Nat×α)) (h:j≠k):get ((j,x)::l) k=get l k:=by simp [get,h]
def nI (f:Nat) (vs:Array Value):Value:=if f<1000000 then .func (.func f) #[] vs else .func (.func (f - 1000000)) vs #[]
inductive VP (w:World) (ok:Nat->Prop):AV->Value->Prop
 |v (x:Value):VP w ok (.v x) x
 |agg {cs:List AV} {vs:Array Value} (hl:cs.length=vs.size)
  (h:∀ (i:Nat) (c:AV) (u:Value),cs[i]? =some c->vs[i]? =some u->VP w ok c u):VP w ok (.agg cs) (.agg vs)
 |aT {cs:List AV} {vs:Array Value} (hl:cs.length=vs.size)
  (h:∀ (i:Nat) (c:AV) (u:Value),cs[i]? =some c->vs[i]? =some u->VP w ok c u):VP w ok (.aT cs) (.tuple vs)
 |fO {sz:Nat}:VP w ok (.sl sz []) (.slice none 0 0)
 |sl {sz:Nat} {xs:List (List AV)} (a:Addr) (n cap:Nat) (f:Nat->Nat->Value) (hn:n=xs.length) (hcap:n<=cap)
  (hok:0<xs.length->a.spot=none/\ok a.block)
  (hl:∀ (k:Nat) (e:List AV),xs[k]? =some e->e.length=sz)
  (hc:∀ (k:Nat) (e:List AV) (j:Nat) (c:AV),xs[k]? =some e->e[j]? =some c->w.cell? ⟨a.block,a.off+(k*sz+j),none⟩=some (f k j)/\(f k j).oneCell'=true)
  (hv:∀ (k:Nat) (e:List AV) (j:Nat) (c:AV),xs[k]? =some e->e[j]? =some c->VP w ok c (f k j)):VP w ok (.sl sz xs) (.slice (some a) n cap)
 |bW {cs:List AV} {j:Nat} (g o:Nat) (f:Nat->Value) (hok:ok g)
  (hc:∀ (i:Nat) (c:AV),cs[i]? =some c->w.cell? ⟨g,o+i,none⟩=some (f i))
  (hv:∀ (i:Nat) (c:AV),cs[i]? =some c->VP w ok c (f i)):VP w ok (.bW cs j) (.pointer (some ⟨g,o+j,none⟩))
 |fn {f:FuncId} {cs:List AV} {vs:Array Value} (hf:f<2000000) (hl:cs.length=vs.size)
  (h:∀ (i:Nat) (c:AV) (u:Value),cs[i]? =some c->vs[i]? =some u->VP w ok c u):VP w ok (.fn f cs) (nI f vs)
 |kZ {sz:Nat} {xs:List (List AV)} {u:Value} (h:VP w ok (.sl sz xs) u) (hc:u= .slice none 0 0\/∃ a n,u= .slice (some a) n n):VP w ok (.fn 2000000 [.sl sz xs]) u
theorem VP.mono {w w':World} {ok ok':Nat->Prop} (hok:∀ g,ok g->ok' g) (hw:∀ g,ok g->w'.heap[g]? =w.heap[g]?) {x:AV} {u:Value}
  (h:VP w ok x u):VP w' ok' x u:=by
 induction h with
 |v x=>exact .v x
 |agg hl _ ih=>exact .agg hl ih
 |aT hl _ ih=>exact .aT hl ih
 |fO=>exact .fO
 |sl a n cap f hn hcap hk hl hc _ ih=>
  refine .sl a n cap f hn hcap (fun h=>⟨(hk h).1,hok _ (hk h).2⟩) hl (fun k e j c h1 h2=> ?_) ih
  have h3:=(List.getElem?_eq_some_iff.1 h1).1
  rw [<-(hc k e j c h1 h2).1]
  exact ⟨World.cell?_of_block (a:=⟨a.block,_,none⟩) (hw _ (hk (by omega)).2),(hc k e j c h1 h2).2⟩
 |bW g o f hk hc _ ih=>
  refine .bW g o f (hok _ hk) (fun i c h1=> ?_) ih
  rw [<-hc i c h1]
  exact World.cell?_of_block (a:=⟨g,_,none⟩) (hw _ hk)
 |fn hf hl _ ih=>exact .fn hf hl ih
 |kZ h hc ih=>exact .kZ ih hc
def OwnAt (l:Loc) (sz off len:Nat) (u:Value):Prop:=
 (∃ a n c,u= .slice a n c)/\
 match l with
 | .dead=>True
 | .nil=>len=0/\u= .slice none 0 0
 | .at g o n=>(len=0/\n<=off*sz/\(u= .slice none 0 0\/∃ a,u= .slice (some a) 0 0))\/∃ cap,len<=cap/\(off+cap)*sz=n/\u= .slice (some ⟨g,o+off*sz,none⟩) len cap
inductive VR (w:World) (ok:Nat->Prop) (ρ:Nat->Loc) (U:Nat->Prop):AV->Value->Prop
 |p {x:AV} {u:Value} (h:VP w ok x u):VR w ok ρ U x u
 |agg {cs:List AV} {vs:Array Value} (hl:cs.length=vs.size)
  (h:∀ (i:Nat) (c:AV) (u:Value),cs[i]? =some c->vs[i]? =some u->VR w ok ρ U c u):VR w ok ρ U (.agg cs) (.agg vs)
 |aT {cs:List AV} {vs:Array Value} (hl:cs.length=vs.size)
  (h:∀ (i:Nat) (c:AV) (u:Value),cs[i]? =some c->vs[i]? =some u->VR w ok ρ U c u):VR w ok ρ U (.aT cs) (.tuple vs)
 |fn {f:FuncId} {cs:List AV} {vs:Array Value} (hf:f<2000000) (hl:cs.length=vs.size)
  (h:∀ (i:Nat) (c:AV) (u:Value),cs[i]? =some c->vs[i]? =some u->VR w ok ρ U c u):VR w ok ρ U (.fn f cs) (nI f vs)
 |own {b sz off len:Nat} {u:Value} (hu:U b) (h:OwnAt (ρ b) sz off len u):VR w ok ρ U (.own b sz off len) u
 |ptr {b j:Nat} (a:Option Addr) (hu:U b) (h:∀ g o n,ρ b= .at g o n->a=some ⟨g,o+j,none⟩):VR w ok ρ U (.ptr b j) (.pointer a)
 |rp {b sz k j:Nat} (a:Option Addr) (hu:U b) (h:∀ g o n,ρ b= .at g o n->a=some ⟨g,o+(k*sz+j),none⟩):VR w ok ρ U (.rp b sz k j) (.pointer a)
 |mp {b:Nat} (r:Option Nat) (hu:U b) (h:∀ g o n,ρ b= .at g o n->r=some g):VR w ok ρ U (.mp b) (.map r)
def Later (U:Nat->Prop) (ρ ρ':Nat->Loc):Prop:=∀ b,U b->ρ' b=ρ b\/ρ' b= .dead
theorem VR.mono {w w':World} {ok ok':Nat->Prop} {ρ ρ':Nat->Loc} {U U':Nat->Prop} (hok:∀ g,ok g->ok' g) (hw:∀ g,ok g->w'.heap[g]? =w.heap[g]?)
  (hU:∀ b,U b->U' b) (hρ:Later U ρ ρ') {x:AV} {u:Value} (h:VR w ok ρ U x u):VR w' ok' ρ' U' x u:=by
 induction h with
 |p h=>exact .p (h.mono hok hw)
 |agg hl _ ih=>exact .agg hl ih
 |aT hl _ ih=>exact .aT hl ih
 |fn hf hl _ ih=>exact .fn hf hl ih
 |own hu h=>
  refine .own (hU _ hu) ?_
  rcases hρ _ hu with e|e
  ·rw [e];exact h
  ·rw [e];exact ⟨h.1,trivial⟩
 |ptr a hu h=>
  refine .ptr a (hU _ hu) ?_
  rcases hρ _ hu with e|e
  ·rw [e];exact h
  ·rw [e];intro g o n h;cases h
 |rp a hu h=>
  refine .rp a (hU _ hu) ?_
  rcases hρ _ hu with e|e
  ·rw [e];exact h
  ·rw [e];intro g o n h;cases h
 |mp a hu h=>
  refine .mp a (hU _ hu) ?_
  rcases hρ _ hu with e|e
  ·rw [e];exact h
  ·rw [e];intro g o n h;cases h
def VL (w:World) (ok:Nat->Prop) (ρ:Nat->Loc) (U:Nat->Prop) (cs:List AV) (vs:Array Value):Prop:=
 cs.length=vs.size/\∀ (i:Nat) (c:AV) (u:Value),cs[i]? =some c->vs[i]? =some u->VR w ok ρ U c u
section inv
variable {w:World} {ok:Nat->Prop} {ρ:Nat->Loc} {U:Nat->Prop}
theorem VR.yA {cs:List AV} {u:Value} (h:VR w ok ρ U (.agg cs) u):∃ vs,u= .agg vs/\VL w ok ρ U cs vs:=by
 cases h with
 |p h=>cases h with|agg hl h=>exact ⟨_,rfl,hl,fun i c u a b=> .p (h i c u a b)⟩
 |agg hl h=>exact ⟨_,rfl,hl,h⟩
theorem VR.Mk {cs:List AV} {u:Value} (h:VR w ok ρ U (.aT cs) u):∃ vs,u= .tuple vs/\VL w ok ρ U cs vs:=by
 cases h with
 |p h=>cases h with|aT hl h=>exact ⟨_,rfl,hl,fun i c u a b=> .p (h i c u a b)⟩
 |aT hl h=>exact ⟨_,rfl,hl,h⟩
theorem VR.GL {f:FuncId} {cs:List AV} {u:Value} (hf:f<2000000) (h:VR w ok ρ U (.fn f cs) u):∃ vs,u=nI f vs/\VL w ok ρ U cs vs:=by
 cases h with
 |p h=>cases h with
  |fn _ hl h=>exact ⟨_,rfl,hl,fun i c u a b=> .p (h i c u a b)⟩
  |kZ=>exact absurd hf (Nat.lt_irrefl _)
 |fn _ hl h=>exact ⟨_,rfl,hl,h⟩
theorem VR.Ml {sz:Nat} {xs:List (List AV)} {u:Value} (h:VR w ok ρ U (.fn 2000000 [.sl sz xs]) u):VP w ok (.sl sz xs) u/\(u= .slice none 0 0\/∃ a n,u= .slice (some a) n n):=by
 cases h with
 |p h=>cases h with
  |fn hf _ _=>exact absurd hf (Nat.lt_irrefl _)
  |kZ h hc=>exact ⟨h,hc⟩
 |fn hf _ _=>exact absurd hf (Nat.lt_irrefl _)
theorem VR.bA {x u:Value} (h:VR w ok ρ U (.v x) u):u=x:=by
 cases h with|p h=>cases h;rfl
theorem VR.rY {sz:Nat} {xs:List (List AV)} {u:Value} (h:VR w ok ρ U (.sl sz xs) u):VP w ok (.sl sz xs) u:=by
 cases h with|p h=>exact h
theorem VR.GN {cs:List AV} {j:Nat} {u:Value} (h:VR w ok ρ U (.bW cs j) u):VP w ok (.bW cs j) u:=by
 cases h with|p h=>exact h
theorem VR.oL {b sz off len:Nat} {u:Value} (h:VR w ok ρ U (.own b sz off len) u):U b/\OwnAt (ρ b) sz off len u:=by
 cases h with
 |p h=>cases h
 |own hu h=>exact ⟨hu,h⟩
theorem VR.qi {b j:Nat} {u:Value} (h:VR w ok ρ U (.ptr b j) u):U b/\∃ a,u= .pointer a/\∀ g o n,ρ b= .at g o n->a=some ⟨g,o+j,none⟩:=by
 cases h with
 |p h=>cases h
 |ptr a hu h=>exact ⟨hu,a,rfl,h⟩
theorem VR.GQ {b sz k j:Nat} {u:Value} (h:VR w ok ρ U (.rp b sz k j) u):U b/\∃ a,u= .pointer a/\∀ g o n,ρ b= .at g o n->a=some ⟨g,o+(k*sz+j),none⟩:=by
 cases h with
 |p h=>cases h
 |rp a hu h=>exact ⟨hu,a,rfl,h⟩
theorem VR.Dx {b:Nat} {u:Value} (h:VR w ok ρ U (.mp b) u):U b/\∃ r,u= .map r/\∀ g o n,ρ b= .at g o n->r=some g:=by
 cases h with
 |p h=>cases h
 |mp a hu h=>exact ⟨hu,a,rfl,h⟩
theorem VL.nil:VL w ok ρ U [] #[]:=⟨rfl,by simp⟩
theorem VL.push {cs:List AV} {vs:Array Value} (h:VL w ok ρ U cs vs) {c:AV} {u:Value} (hc:VR w ok ρ U c u):VL w ok ρ U (cs++[c]) (vs.push u):=by
 refine ⟨by simp [h.1],fun i c' u' h1 h2=> ?_⟩
 rw [Array.getElem?_push] at h2
 rw [List.getElem?_append] at h1
 split at h2
 ·subst_vars
  rw [if_neg (by have:=h.1;omega)] at h1
  have:vs.size - cs.length=0:=by have:=h.1;omega
  rw [this] at h1
  simp at h1 h2
  subst h1;subst h2
  exact hc
 ·rename_i hi
  by_cases hlt:i<cs.length
  ·rw [if_pos hlt] at h1
   exact h.2 i _ _ h1 h2
  ·have:i<vs.size:=(Array.getElem?_eq_some_iff.1 h2).1
   have:=h.1
   omega
theorem VL.mono {w':World} {ok':Nat->Prop} {ρ':Nat->Loc} {U':Nat->Prop} (hok:∀ g,ok g->ok' g) (hw:∀ g,ok g->w'.heap[g]? =w.heap[g]?)
  (hU:∀ b,U b->U' b) (hρ:Later U ρ ρ') {cs:List AV} {vs:Array Value} (h:VL w ok ρ U cs vs):VL w' ok' ρ' U' cs vs:=
 ⟨h.1,fun i c u h1 h2=>(h.2 i c u h1 h2).mono hok hw hU hρ⟩
end inv
structure Ctx where
 w0:World
 ok:Nat->Prop
 ext:Nat->Prop
 loc:Nat->Option Loc
 nt:Nat
 wC:∀ g,ext g->∃ b o n,loc b=some (.at g o n)
 AU:∀ b l,loc b=some l->b<4
 AX:Nat->Prop
 aym:∀ g,AX g->¬ ext g
def Ctx.new (C:Ctx) (g:Nat):Prop:=C.AX g\/C.w0.heap.size<=g
def iI (ρ:Nat->Loc) (g:Nat):Prop:=∃ b o n,ρ b= .at g o n
def ay (C:Ctx) (ρ:Nat->Loc) (w:World) (g:Nat):Prop:=(C.ok g\/C.new g)/\g<w.heap.size/\¬ iI ρ g
def dV (w:World) (ok:Nat->Prop) (ρ:Nat->Loc) (U:Nat->Prop) (l:Loc):Ob->Prop
 | .box cs=>∃ g o n e cells,l= .at g o n/\w.heap[g]? =some (.cells cells e (0,0))/\o+n<=cells.size/\n=cs.length/\
  ∀ j c,cs[j]? =some c->∃ u,cells[o+j]? =some u/\VR w ok ρ U c u
 | .row e sz xs=>(l= .nil/\xs=[])\/∃ g o n cells,l= .at g o n/\w.heap[g]? =some (.cells cells e (0,0))/\o+n<=cells.size/\xs.length*sz<=n/\
  (∀ (k:Nat) (x:List AV),xs[k]? =some x->x.length=sz)/\
  ∀ (k:Nat) (x:List AV) (j:Nat) (c:AV),xs[k]? =some x->x[j]? =some c->∃ u,cells[o+(k*sz+j)]? =some u/\u.oneCell'=true/\VP w ok c u
 | .map es=>∃ g aH clock,l= .at g 0 0/\w.heap[g]? =some (.map aH clock)/\aH.size=es.length/\
  ∀ (i:Nat) (k:Value) (c:AV) (m:MapEntry),es[i]? =some (k,c)->aH[i]? =some m->m.key=k/\VR w ok ρ U c m.val
 | .dead=>l= .dead
structure HR (C:Ctx) (ρ:Nat->Loc) (U:Nat->Prop) (h:List (Nat×Ob)) (w:World):Prop where
 hp:∀ b o,get h b=some o->U b/\dV w (ay C ρ w) ρ U (ρ b) o
 hd:∀ b,get h b=none->ρ b= .dead
 inj:∀ b b' g o n o' n',ρ b= .at g o n->ρ b'= .at g o' n'->b=b'
 os:w.os=C.w0.os
 tape:w.tape=C.w0.tape
 output:w.output=C.w0.output
 size:C.w0.heap.size<=w.heap.size
 old:∀ g,g<C.w0.heap.size->¬ C.ext g->¬ C.AX g->w.heap[g]? =C.w0.heap[g]?
 kL:∀ g,C.ok g->g<C.w0.heap.size/\¬ C.ext g/\¬ C.AX g
 bE:∀ g,iI ρ g->(C.ext g\/C.new g)/\g<w.heap.size
 fix:∀ b l,C.loc b=some l->ρ b=l/\U b/\∃ cs,get h b=some (.box cs)
structure St where
 n:Nat
 t:List (Nat×AV)
 h:List (Nat×Ob)
structure R (C:Ctx) (ρ:Nat->Loc) (U:Nat->Prop) (s:St) (a:Act) (w:World):Prop where
 hr:HR C ρ U s.h w
 defers:a.defers=[]
 sz:a.tmps.size=C.nt
 tm:∀ k x,get s.t k=some x->∃ u,a.tmps[k]? =some u/\VR w (ay C ρ w) ρ U x u
def up (ρ:Nat->Loc) (b:Nat) (l:Loc):Nat->Loc:=fun k=>if k=b then l else ρ k
def fV (U:Nat->Prop) (b:Nat):Nat->Prop:=fun k=>U k\/k=b
structure Moved (C:Ctx) (ρ:Nat->Loc) (U:Nat->Prop) (h:List (Nat×Ob)) (w:World) (b:Nat) (l:Loc) (w':World):Prop where
 os:w'.os=w.os
 tape:w'.tape=w.tape
 output:w'.output=w.output
 size:w.heap.size<=w'.heap.size
 bl:∀ g,g<w.heap.size->(∀ o n,ρ b≠.at g o n)->w'.heap[g]? =w.heap[g]?
 way:(U b/\l=ρ b)\/(U b/\l= .dead/\∀ cs,get h b≠some (.box cs))\/
  (¬ U b/\(l= .nil\/∃ g o n,l= .at g o n/\w.heap.size<=g/\g<w'.heap.size))
section moved
variable {C:Ctx} {ρ:Nat->Loc} {U:Nat->Prop} {h:List (Nat×Ob)} {w w':World} {b:Nat} {l:Loc}
theorem HR.GR (hr:HR C ρ U h w) (hu:¬ U b):ρ b= .dead:=by
 cases hg:get h b with
 |none=>exact hr.hd b hg
 |some o=>exact absurd (hr.hp b o hg).1 hu
theorem Moved.later (hm:Moved C ρ U h w b l w'):Later U ρ (up ρ b l):=by
 intro k hk
 unfold up
 by_cases e:k=b
 ·subst e
  rw [if_pos rfl]
  rcases hm.way with ⟨_,h⟩|⟨_,h,_⟩|⟨h,_⟩
  ·exact .inl h
  ·exact .inr h
  ·exact absurd hk h
 ·rw [if_neg e];exact .inl rfl
theorem Moved.owned (hm:Moved C ρ U h w b l w') {g:Nat} (ho:iI (up ρ b l) g):iI ρ g\/(w.heap.size<=g/\g<w'.heap.size):=by
 obtain ⟨k,o,n,hk⟩:=ho
 unfold up at hk
 by_cases e:k=b
 ·rw [if_pos e] at hk
  rcases hm.way with ⟨_,h⟩|⟨_,h,_⟩|⟨_,h|⟨g',o',n',h,h1,h2⟩⟩
  ·rw [h] at hk;exact .inl ⟨b,o,n,hk⟩
  ·rw [h] at hk;cases hk
  ·rw [h] at hk;cases hk
  ·rw [h] at hk;cases hk;exact .inr ⟨h1,h2⟩
 ·rw [if_neg e] at hk;exact .inl ⟨k,o,n,hk⟩
theorem Moved.ay (hm:Moved C ρ U h w b l w') {g:Nat} (hg:ay C ρ w g):ay C (up ρ b l) w' g:=by
 refine ⟨hg.1,Nat.lt_of_lt_of_le hg.2.1 hm.size,fun ho=> ?_⟩
 rcases hm.owned ho with h|h
 ·exact hg.2.2 h
 ·have:=hg.2.1;omega
theorem Moved.same (hm:Moved C ρ U h w b l w') {g:Nat} (hg:Go.Eng.ay C ρ w g):w'.heap[g]? =w.heap[g]? :=
 hm.bl g hg.2.1 fun o n e=>hg.2.2 ⟨b,o,n,e⟩
theorem Moved.vr (hm:Moved C ρ U h w b l w') {x:AV} {u:Value} (hx:VR w (Go.Eng.ay C ρ w) ρ U x u):VR w' (Go.Eng.ay C (up ρ b l) w') (up ρ b l) (fV U b) x u:=
 hx.mono (fun _=>hm.ay) (fun _=>hm.same) (fun _ h=> .inl h) hm.later
theorem Moved.vp (hm:Moved C ρ U h w b l w') {x:AV} {u:Value} (hx:VP w (Go.Eng.ay C ρ w) x u):VP w' (Go.Eng.ay C (up ρ b l) w') x u:=
 hx.mono (fun _=>hm.ay) (fun _=>hm.same)
theorem dV.keep (hm:Moved C ρ U h w b l w') {l':Loc} {ob:Ob} (hl:∀ g o n,l'= .at g o n->g<w.heap.size/\w'.heap[g]? =w.heap[g]?)
  (ho:dV w (Go.Eng.ay C ρ w) ρ U l' ob):dV w' (Go.Eng.ay C (up ρ b l) w') (up ρ b l) (fV U b) l' ob:=by
 cases ob with
 |box cs=>
  obtain ⟨g,o,n,e,cells,h1,h2,h3,h4,h5⟩:=ho
  refine ⟨g,o,n,e,cells,h1,(hl g o n h1).2.trans h2,h3,h4,fun j c hj=> ?_⟩
  obtain ⟨u,hu,hv⟩:=h5 j c hj
  exact ⟨u,hu,hm.vr hv⟩
 |row e sz xs=>
  rcases ho with ho|⟨g,o,n,cells,h1,h2,h3,h4,h5,h6⟩
  ·exact .inl ho
  ·refine .inr ⟨g,o,n,cells,h1,(hl g o n h1).2.trans h2,h3,h4,h5,fun k x j c hk hj=> ?_⟩
   obtain ⟨u,hu,h1c,hv⟩:=h6 k x j c hk hj
   exact ⟨u,hu,h1c,hm.vp hv⟩
 |map es=>
  obtain ⟨g,aH,clock,h1,h2,h3,h4⟩:=ho
  exact ⟨g,aH,clock,h1,(hl g 0 0 h1).2.trans h2,h3,fun i k c m hi he=>⟨(h4 i k c m hi he).1,hm.vr (h4 i k c m hi he).2⟩⟩
 |dead=>exact ho
theorem HR.aes (hr:HR C ρ U h w) (hn:¬ U b):HR C ρ (fV U b) ((b,.dead)::h) w where
 hp k o hk:=by
  by_cases e:b=k
  ·subst e
   rw [rX] at hk
   cases hk
   exact ⟨.inr rfl,hr.GR hn⟩
  ·rw [lW _ _ _ _ e] at hk
   obtain ⟨h1,h2⟩:=hr.hp k o hk
   refine ⟨.inl h1,?_⟩
   have vm:∀ {x:AV} {u:Value},VR w (Go.Eng.ay C ρ w) ρ U x u->VR w (Go.Eng.ay C ρ w) ρ (fV U b) x u:=fun hx=>hx.mono (fun _ h=>h) (fun _ _=>rfl) (fun _ h=> .inl h) (fun _ _=> .inl rfl)
   cases o with
   |box cs=>
    obtain ⟨g,o,n,e,cells,h1,h2,h3,h4,h5⟩:=h2
    refine ⟨g,o,n,e,cells,h1,h2,h3,h4,fun j c hj=> ?_⟩
    obtain ⟨u,hu,hv⟩:=h5 j c hj
    exact ⟨u,hu,vm hv⟩
   |row e sz xs=>exact h2
   |map es=>
    obtain ⟨g,aH,clock,h1,h2,h3,h4⟩:=h2
    exact ⟨g,aH,clock,h1,h2,h3,fun i k c m hi he=>⟨(h4 i k c m hi he).1,vm (h4 i k c m hi he).2⟩⟩
   |dead=>exact h2
 hd k hk:=by
  by_cases e:b=k
  ·subst e;rw [rX] at hk;cases hk
  ·rw [lW _ _ _ _ e] at hk
   exact hr.hd k hk
 inj:=hr.inj
 os:=hr.os
 tape:=hr.tape
 output:=hr.output
 size:=hr.size
 old:=hr.old
 kL:=hr.kL
 bE:=hr.bE
 fix k l hk:=by
  obtain ⟨h1,h2,cs,h3⟩:=hr.fix k l hk
  have e:b≠k:=fun e=>hn (e▸h2)
  exact ⟨h1,.inl h2,cs,by rw [lW _ _ _ _ e];exact h3⟩
theorem Moved.hr (hm:Moved C ρ U h w b l w') (hr:HR C ρ U h w) {ob:Ob} (hb:(∃ cs,get h b=some (.box cs))->∃ cs,ob= .box cs)
  (ho:dV w' (Go.Eng.ay C (up ρ b l) w') (up ρ b l) (fV U b) l ob):HR C (up ρ b l) (fV U b) ((b,ob)::h) w' where
 hp k o hk:=by
  by_cases e:b=k
  ·subst e
   rw [rX] at hk
   cases hk
   refine ⟨.inr rfl,?_⟩
   have:up ρ b l b=l:=by simp [up]
   rw [this];exact ho
  ·rw [lW _ _ _ _ e] at hk
   have he:up ρ b l k=ρ k:=by unfold up;rw [if_neg (fun h=>e h.symm)]
   obtain ⟨h1,h2⟩:=hr.hp k o hk
   refine ⟨.inl h1,?_⟩
   rw [he]
   refine dV.keep hm (fun g o n hl=> ?_) h2
   have hlt:=(hr.bE g ⟨k,o,n,hl⟩).2
   refine ⟨hlt,hm.bl g hlt fun o' n' h'=> ?_⟩
   exact e (hr.inj b k g o' n' o n h' hl)
 hd k hk:=by
  by_cases e:b=k
  ·subst e;rw [rX] at hk;cases hk
  ·rw [lW _ _ _ _ e] at hk
   unfold up;rw [if_neg (fun h=>e h.symm)];exact hr.hd k hk
 inj k k' g o n o' n' h1 h2:=by
  have key:∀ k o n,up ρ b l k= .at g o n->(k=b/\(ρ b= .at g o n\/w.heap.size<=g))\/(k≠b/\ρ k= .at g o n):=by
   intro k o n hk
   unfold up at hk
   by_cases e:k=b
   ·rw [if_pos e] at hk
    refine .inl ⟨e,?_⟩
    rcases hm.way with ⟨_,h⟩|⟨_,h,_⟩|⟨_,h|⟨g',o',n',h,h1,h2⟩⟩
    ·rw [h] at hk;exact .inl hk
    ·rw [h] at hk;cases hk
    ·rw [h] at hk;cases hk
    ·rw [h] at hk;cases hk;exact .inr h1
   ·rw [if_neg e] at hk;exact .inr ⟨e,hk⟩
  rcases key k o n h1 with ⟨e1,a1⟩|⟨e1,a1⟩<;>rcases key k' o' n' h2 with ⟨e2,a2⟩|⟨e2,a2⟩
  ·rw [e1,e2]
  ·rcases a1 with a1|a1
   ·rw [e1];exact hr.inj _ _ _ _ _ _ _ a1 a2
   ·have:=(hr.bE g ⟨k',o',n',a2⟩).2;omega
  ·rcases a2 with a2|a2
   ·rw [e2];exact hr.inj _ _ _ _ _ _ _ a1 a2
   ·have:=(hr.bE g ⟨k,o,n,a1⟩).2;omega
  ·exact hr.inj _ _ _ _ _ _ _ a1 a2
 os:=hm.os.trans hr.os
 tape:=hm.tape.trans hr.tape
 output:=hm.output.trans hr.output
 size:=Nat.le_trans hr.size hm.size
 old g hg he hv:=by
  rw [<-hr.old g hg he hv]
  refine hm.bl g (Nat.lt_of_lt_of_le hg hr.size) fun o n e=> ?_
  rcases (hr.bE g ⟨b,o,n,e⟩).1 with h|h
  ·exact he h
  ·rcases h with h|h
   ·exact hv h
   ·omega
 kL:=hr.kL
 bE g ho:=by
  rcases hm.owned ho with h|h
  ·exact ⟨(hr.bE g h).1,Nat.lt_of_lt_of_le (hr.bE g h).2 hm.size⟩
  ·exact ⟨.inr (.inr (by have:=hr.size;omega)),h.2⟩
 fix k l' hk:=by
  obtain ⟨h1,h2,cs,h3⟩:=hr.fix k l' hk
  by_cases e:b=k
  ·subst e
   obtain ⟨cs',hcs⟩:=hb ⟨cs,h3⟩
   refine ⟨?_,.inl h2,cs',by rw [rX,hcs]⟩
   have:up ρ b l b=l:=by simp [up]
   rw [this]
   rcases hm.way with ⟨_,h⟩|⟨_,_,h⟩|⟨h,_⟩
   ·rw [h];exact h1
   ·exact absurd h3 (h cs)
   ·exact absurd h2 h
  ·refine ⟨?_,.inl h2,cs,by rw [lW _ _ _ _ e];exact h3⟩
   unfold up;rw [if_neg (fun h=>e h.symm)];exact h1
theorem Moved.tm (hm:Moved C ρ U h w b l w') {a:Act} {t:List (Nat×AV)} (ht:∀ k x,get t k=some x->∃ u,a.tmps[k]? =some u/\VR w (Go.Eng.ay C ρ w) ρ U x u):
  ∀ k x,get t k=some x->∃ u,a.tmps[k]? =some u/\VR w' (Go.Eng.ay C (up ρ b l) w') (up ρ b l) (fV U b) x u:=by
 intro k x hk
 obtain ⟨u,h1,h2⟩:=ht k x hk
 exact ⟨u,h1,hm.vr h2⟩
end moved
theorem HR.world {C:Ctx} {ρ:Nat->Loc} {U:Nat->Prop} {h:List (Nat×Ob)} {w w':World} (hr:HR C ρ U h w) (e1:w'.heap=w.heap) (e2:w'.os=w.os)
  (e3:w'.tape=w.tape) (e4:w'.output=w.output):HR C ρ U h w'/\∀ x u,VR w (ay C ρ w) ρ U x u->VR w' (ay C ρ w') ρ U x u:=by
 have ho:ay C ρ w'=ay C ρ w:=by unfold ay;rw [e1]
 have hv:∀ x u,VR w (ay C ρ w) ρ U x u->VR w' (ay C ρ w') ρ U x u:=fun x u hx=>by
  rw [ho];exact hx.mono (fun _ h=>h) (fun g _=>by rw [e1]) (fun _ h=>h) (fun _ _=> .inl rfl)
 have hvp:∀ x u,VP w (ay C ρ w) x u->VP w' (ay C ρ w') x u:=fun x u hx=>by
  rw [ho];exact hx.mono (fun _ h=>h) (fun g _=>by rw [e1])
 refine ⟨⟨fun b o hb=>⟨(hr.hp b o hb).1,?_⟩,hr.hd,hr.inj,e2.trans hr.os,e3.trans hr.tape,e4.trans hr.output,by rw [e1];exact hr.size,
  fun g h1 h2 h3=>by rw [e1];exact hr.old g h1 h2 h3,hr.kL,fun g h1=>by rw [e1];exact hr.bE g h1,hr.fix⟩,hv⟩
 have h2:=(hr.hp b o hb).2
 cases o with
 |box cs=>
  obtain ⟨g,o,n,e,cells,h1,h2,h3,h4,h5⟩:=h2
  refine ⟨g,o,n,e,cells,h1,by rw [e1];exact h2,h3,h4,fun j c hj=> ?_⟩
  obtain ⟨u,hu,hx⟩:=h5 j c hj
  exact ⟨u,hu,hv _ _ hx⟩
 |row e sz xs=>
  rcases h2 with h2|⟨g,o,n,cells,h1,h2,h3,h4,h5,h6⟩
  ·exact .inl h2
  ·refine .inr ⟨g,o,n,cells,h1,by rw [e1];exact h2,h3,h4,h5,fun k x j c hk hj=> ?_⟩
   obtain ⟨u,hu,h1c,hx⟩:=h6 k x j c hk hj
   exact ⟨u,hu,h1c,hvp _ _ hx⟩
 |map es=>
  obtain ⟨g,aH,clock,h1,h2,h3,h4⟩:=h2
  exact ⟨g,aH,clock,h1,by rw [e1];exact h2,h3,fun i k c m hi he=>⟨(h4 i k c m hi he).1,hv _ _ (h4 i k c m hi he).2⟩⟩
 |dead=>exact h2
end Go.Eng
namespace Go.Eng
open Go
def ev (t:List (Nat×AV)):Operand->Option AV
 | .tmp k=>get t k
 | .const v=>some (.v v)
 | .func f=>if f<1000000 then some (.fn f []) else none
 | .global _=>none
def kN (t:List (Nat×AV)):List Operand->Option (List AV)
 |[]=>some []
 |x::l=>match ev t x,kN t l with
  |some y,some ys=>some (y::ys)
  |_,_=>none
inductive SOp where
 |jL (x:Operand)
 |pick (c a b:Operand)
 |alloc (zs:List Value)
 |box (x:Operand)
 |build (zs:List Value) (parts:List (Nat×Nat×Operand))
 |iJ (e:TypeId) (sz:Nat) (zs:List Value) (len:Nat) (parts:List (Nat×Operand))
 |load (ag:Bool) (sz:Nat) (x:Operand)
 |store (sz:Nat) (x y:Operand)
 |jM (x:Operand)
 |bin (op:BinOp) (x y:Operand)
 |eqs (neg:Bool) (ks:List Nat) (x y:Operand)
 |jN (neg:Bool) (x y:Operand)
 |oM (neg:Bool) (x:Operand)
 |un (op:UnOp) (x:Operand)
 |conv (k:IntKind) (x:Operand)
 |rZ (e:TypeId) (x:Operand)
 |lg (x:Operand)
 |nJ (f:FuncId) (caps:List Operand)
 |yB (f:FuncId) (first:List Operand)
 |oN
 |look (z:Value) (m k:Operand)
 |um (z:Value) (m k:Operand)
 |jO (m k x:Operand)
 |lX (e:TypeId) (sz bytes:Nat) (zs:List Value) (l c:Operand)
 |slice (sz:Nat) (x:Operand) (lo hi mx:Option Operand)
 |nK (x:Operand) (lo hi:Option Operand)
 |uo (n sz:Nat) (x:Operand)
 |jP (off:Nat) (x:Operand)
 |nL (ag:Bool) (off sz:Nat) (x:Operand)
 |lY (sz:Nat) (x i:Operand)
 |lZ (len sz:Nat) (x i:Operand)
 |idx (ag:Bool) (len sz:Nat) (x i:Operand)
 |idxs (x i:Operand)
 |len (x:Operand)
 |nM (x:Operand)
 |cap (x:Operand)
 |app (e:TypeId) (sz bytes:Nat) (zs:List Value) (s x:Operand)
 |lm (e:TypeId) (sz bytes:Nat) (zs:List Value) (s x:Operand)
 |lq (sz:Nat) (zs:List Value) (x:Operand)
 |copy (sz:Nat) (d x:Operand)
 |bad
 |ext (i:Nat) (x:Operand)
 |l5 (mx:Bool) (xs:List Operand)
 |call (f:Operand) (args:List Operand)
structure SOper where
 dst:Option Nat
 op:SOp
 guard:Option (Nat×Bool)
 after:List Nat:=[]
inductive SCode where
 |skip
 |region (ops:List SOper) (draw:Bool)
 |seq (a b:SCode)
 |cond (c:Operand) (x y:SCode)
 |block (id:Nat) (c:SCode)
 |loop (c:SCode)
 |exit (id:Nat)
 |ret
def wD:Option AV->Option (Option Bool)
 |some (.v (.slice none _ _))=>some (some true)
 |some (.sl _ (_::_))=>some (some false)
 |some (.sl _ [])=>some none
 |some (.own _ _ _ _)=>some none
 |_=>none
structure E where
 pre:Prop
 val:AV
 upd:List (Nat×Ob)
def AV.one:AV->Bool
 | .v x=>x.oneCell'
 | .agg _=>false
 | .aT _=>false
 |_=>true
mutual
def AV.pure:AV->Bool
 | .v _=>true
 | .sl _ _=>true
 | .bW _ _=>true
 | .agg cs=>fB cs
 | .aT cs=>fB cs
 | .fn _ cs=>fB cs
 |_=>false
def fB:List AV->Bool
 |[]=>true
 |c::cs=>c.pure&&fB cs
end
def qj:List AV->Bool
 |[]=>true
 |c::cs=>c.one&&qj cs
def nN:AV->Option (List AV)
 | .agg cs=>if qj cs then some cs else none
 |x=>if x.one then some [x] else none
def splice (cs:List AV) (j:Nat) (ys:List AV):List AV:=cs.take j++(ys++cs.drop (j+ys.length))
def nth (xs:List (List AV)) (k:Nat):List AV:=xs[k]?.getD []
def bP:BinOp->Value->Value->Option Value
 | .add,.int k a,.int k' b=>if k=k' then some (.int k (k.wrap (a+b))) else none
 | .sub,.int k a,.int k' b=>if k=k' then some (.int k (k.wrap (a - b))) else none
 | .mul,.int k a,.int k' b=>if k=k' then some (.int k (k.wrap (a*b))) else none
 | .and,.int k a,.int k' b=>if k=k' then some (.int k (bits .and k a b)) else none
 | .or,.int k a,.int k' b=>if k=k' then some (.int k (bits .or k a b)) else none
 | .xor,.int k a,.int k' b=>if k=k' then some (.int k (bits .xor k a b)) else none
 | .eql,.int k a,.int k' b=>if k=k' then some (.bool (a==b)) else none
 | .neq,.int k a,.int k' b=>if k=k' then some (.bool (a !=b)) else none
 | .lss,.int k a,.int k' b=>if k=k' then some (.bool (decide (a<b))) else none
 | .leq,.int k a,.int k' b=>if k=k' then some (.bool (decide (a<=b))) else none
 | .gtr,.int k a,.int k' b=>if k=k' then some (.bool (decide (b<a))) else none
 | .geq,.int k a,.int k' b=>if k=k' then some (.bool (decide (b<=a))) else none
 | .eql,.string a,.string b=>some (.bool (a.toList==b.toList))
 | .neq,.string a,.string b=>some (.bool (!(a.toList==b.toList)))
 |_,_,_=>none
def nO:BinOp->Value->Value->Option (Prop×Value)
 | .quo,.int k a,.int k' b=>if k=k' then some (b≠0,.int k (k.wrap (a.tdiv b))) else none
 | .rem,.int k a,.int k' b=>if k=k' then some (b≠0,.int k (a.tmod b)) else none
 | .shl,.int k a,.int _ b=>some (0<=b,.int k (k.wrap (a*2 ^ (min b.toNat k.bits))))
 | .shr,.int k a,.int _ b=>some (0<=b,.int k (a.fdiv (2 ^ (min b.toNat k.bits))))
 | .add,.string a,.string b=>some (a.size+b.size<=maxLen,.string (a++b))
 |_,_,_=>none
def l6:List Nat->List AV->List AV->Option Bool
 |[],[],[]=>some true
 |0::ks,.v (.int k a)::l,.v (.int k' b)::l'=>if k=k' then (match l6 ks l l' with
  |some r=>some ((a==b)&&r)
  |none=>none) else none
 |1::ks,.v (.string a)::l,.v (.string b)::l'=>match l6 ks l l' with
  |some r=>some ((a.toList==b.toList)&&r)
  |none=>none
 |2::ks,.v (.bool a)::l,.v (.bool b)::l'=>match l6 ks l l' with
  |some r=>some ((a==b)&&r)
  |none=>none
 |_,_,_=>none
def yC:List AV->List (Nat×List AV)->Option (List AV)
 |cs,[]=>some cs
 |cs,(off,ys)::rest=>if off+ys.length<=cs.length then yC (splice cs off ys) rest else none
def r9 (t:List (Nat×AV)):List (Nat×Nat×Operand)->Option (List (Nat×List AV))
 |[]=>some []
 |(off,sz,x)::rest=>match ev t x,r9 t rest with
  |some y,some l=>match nN y with
   |some ys=>if ys.length=sz then some ((off,ys)::l) else none
   |none=>none
  |_,_=>none
def si (t:List (Nat×AV)) (sz:Nat):List (Nat×Operand)->Option (List (Nat×List AV))
 |[]=>some []
 |(i,x)::rest=>match ev t x,si t sz rest with
  |some y,some l=>match nN y with
   |some ys=>if ys.length=sz/\fB ys=true then some ((i,ys)::l) else none
   |none=>none
  |_,_=>none
def ql:List (List AV)->List (Nat×List AV)->Option (List (List AV))
 |xs,[]=>some xs
 |xs,(i,y)::rest=>if i<xs.length then ql (xs.set i y) rest else none
def sj:AV->List Nat
 | .own b _ _ _=>[b]
 |_=>[]
def bQ:List AV->List Nat
 |[]=>[]
 |c::cs=>sj c++bQ cs
def Dy:AV->List Nat
 | .agg cs=>bQ cs
 |x=>sj x
def Dz (sz off len:Nat):Option Ob->Option AV
 |some (.row _ sz' xs)=>if sz=sz'/\off+len<=xs.length then some (.sl sz ((xs.drop off).take len)) else none
 |_=>none
def su (h:List (Nat×Ob)):AV->Option AV
 | .own b sz off len=>Dz sz off len (get h b)
 |x=>if x.pure then some x else none
def l7 (h:List (Nat×Ob)):List AV->Option (List AV)
 |[]=>some []
 |c::cs=>match su h c,l7 h cs with
  |some x,some l=>some (x::l)
  |_,_=>none
def l8 (t:List (Nat×AV)) (h:List (Nat×Ob)) (sz:Nat):List (Nat×Operand)->Option (List (Nat×List AV)×List Nat)
 |[]=>some ([],[])
 |(i,x)::rest=>match ev t x,l8 t h sz rest with
  |some y,some (l,bs)=>match nN y with
   |some ys=>match l7 h ys with
    |some zs=>if ys.length=sz then some ((i,zs)::l,bQ ys++bs) else none
    |none=>none
   |none=>none
  |_,_=>none
def oO (bs:List Nat):List (Nat×Ob):=bs.map fun b=>(b,.dead)
def E.ok (x:AV):Option E:=some ⟨True,x,[]⟩
def uq:List (List AV)->Option (List UInt8)
 |[]=>some []
 |[.v (.int .u8 n)]::l=>match uq l with
  |some r=>some (n.toNat.toUInt8::r)
  |none=>none
 |_=>none
def bytesOf (xs:List (List AV)):Option ByteArray:=match uq xs with
 |some l=>some ⟨l.toArray⟩
 |none=>none
def kP (h:List (Nat×Ob)) (sz:Nat):Option AV->Option (Prop×List (List AV))
 |some (.v (.slice none 0 0))=>some (True,[])
 |some (.sl sz' xs)=>if sz=sz' then some (True,xs) else none
 |some (.own b sz' off len)=>match get h b with
  |some (.row _ eB xs)=>if sz=sz'/\sz=eB then some (off+len<=xs.length,(xs.drop off).take len) else none
  |_=>none
 |_=>none
def uw:List (Value×AV)->IntKind->Int->Option (Option AV)
 |[],_,_=>some none
 |(.int q' n',x)::es,q,n=>if q=q' then (if n=n' then some (some x) else uw es q n) else none
 |_,_,_=>none
def wE:List (Value×AV)->IntKind->Int->AV->Option (List (Value×AV))
 |[],q,n,y=>some [(.int q n,y)]
 |(.int q' n',x)::es,q,n,y=>if q=q' then (if n=n' then some ((.int q' n',y)::es) else match wE es q n y with
  |some r=>some ((.int q' n',x)::r)
  |none=>none) else none
 |_,_,_,_=>none
def bound (t:List (Nat×AV)) (d:Nat):Option Operand->Option Int
 |none=>some d
 |some x=>match ev t x with
  |some (.v (.int _ n))=>some n
  |_=>none
def av (nm:Nat) (t:List (Nat×AV)) (h:List (Nat×Ob)):SOp->Option E
 | .jL x=>match ev t x with
  |some y=>E.ok y
  |none=>none
 | .pick c a b=>match ev t c with
  |some (.v (.bool true))=>match ev t a with
   |some y=>E.ok y
   |none=>none
  |some (.v (.bool false))=>match ev t b with
   |some y=>E.ok y
   |none=>none
  |_=>none
 | .alloc zs=>some ⟨True,.ptr nm 0,[(nm,.box (zs.map .v))]⟩
 | .box x=>match ev t x with
  |some y=>match nN y with
   |some ys=>some ⟨True,.ptr nm 0,[(nm,.box ys)]⟩
   |none=>none
  |none=>none
 | .build zs parts=>match r9 t parts with
  |some ps=>match yC (zs.map .v) ps with
   |some cs=>E.ok (.agg cs)
   |none=>none
  |none=>none
 | .iJ e sz zs len parts=>match si t sz parts with
  |some ps=>match ql (List.replicate len (zs.map .v)) ps with
   |some xs=>some ⟨True,.own nm sz 0 len,[(nm,.row e sz xs)]⟩
   |none=>none
  |none=>match l8 t h sz parts with
   |some (ps,bs)=>match ql (List.replicate len (zs.map .v)) ps with
    |some xs=>some ⟨True,.own nm sz 0 len,(nm,.row e sz xs)::oO bs⟩
    |none=>none
   |none=>none
 | .load ag sz x=>match ev t x with
  |some (.ptr b j)=>match get h b with
   |some (.box cs)=>if ag then (if j+sz<=cs.length then E.ok (.agg ((cs.drop j).take sz)) else none) else match cs[j]? with
    |some c=>E.ok c
    |none=>none
   |_=>none
  |some (.bW cs j)=>if ag then (if j+sz<=cs.length then E.ok (.agg ((cs.drop j).take sz)) else none) else match cs[j]? with
   |some c=>E.ok c
   |none=>none
  |some (.rp b sz' k j)=>match get h b with
   |some (.row _ eB xs)=>if sz'=eB then
    (if ag then some ⟨k<xs.length/\j+sz<=eB,.agg (((nth xs k).drop j).take sz),[]⟩
     else some ⟨k<xs.length/\j<eB,((nth xs k)[j]?).getD (.v undef),[]⟩) else none
   |_=>none
  |_=>none
 | .store sz x y=>match ev t x,ev t y with
  |some (.ptr b j),some z=>match get h b,nN z with
   |some (.box cs),some ys=>if ys.length=sz/\j+sz<=cs.length then some ⟨True,.v undef,[(b,.box (splice cs j ys))]⟩ else none
   |_,_=>none
  |some (.rp b sz' k j),some z=>match get h b,nN z with
   |some (.row e eB xs),some ys=>if sz'=eB/\ys.length=sz/\fB ys=true then
    some ⟨k<xs.length/\j+sz<=eB,.v undef,[(b,.row e eB (xs.set k (splice (nth xs k) j ys)))]⟩ else none
   |_,_=>none
  |_,_=>none
 | .jM x=>match ev t x with
  |some (.ptr b j)=>match get h b with
   |some (.box _)=>E.ok (.ptr b j)
   |_=>none
  |some (.bW cs j)=>E.ok (.bW cs j)
  |some (.fn f cs)=>if f<2000000 then E.ok (.fn f cs) else none
  |_=>none
 | .bin op x y=>match ev t x,ev t y with
  |some (.v a),some (.v b)=>match bP op a b with
   |some c=>E.ok (.v c)
   |none=>match nO op a b with
    |some (p,c)=>some ⟨p,.v c,[]⟩
    |none=>none
  |_,_=>none
 | .eqs neg ks x y=>match ev t x,ev t y with
  |some (.agg a),some (.agg b)=>match l6 ks a b with
   |some c=>E.ok (.v (.bool (if neg then !c else c)))
   |none=>none
  |_,_=>none
 | .jN neg x y=>match ev t x,ev t y with
  |some (.v (.bool a)),some (.v (.bool b))=>E.ok (.v (.bool (if neg then !(a==b) else (a==b))))
  |_,_=>none
 | .un op x=>match op,ev t x with
  | .not,some (.v (.bool b))=>E.ok (.v (.bool !b))
  | .neg,some (.v (.int k n))=>E.ok (.v (.int k (k.wrap (0 - n))))
  |_,_=>none
 | .conv k x=>match ev t x with
  |some (.v (.int _ n))=>E.ok (.v (.int k (k.wrap n)))
  |_=>none
 | .lg x=>match kP h 1 (ev t x) with
  |some (p,xs)=>match bytesOf xs with
   |some s=>some ⟨p,.v (.string s),[]⟩
   |none=>none
  |none=>none
 | .nJ f caps=>match kN t caps with
  |some cs=>if f<1000000 then E.ok (.fn f cs) else none
  |none=>none
 | .yB f first=>match kN t first with
  |some cs=>if f<1000000 then E.ok (.fn (f+1000000) cs) else none
  |none=>none
 | .oN=>some ⟨True,.mp nm,[(nm,.map [])]⟩
 | .look z m k=>match ev t m,ev t k with
  |some (.mp b),some (.v (.int q n))=>match get h b with
   |some (.map es)=>match uw es q n with
    |some r=>E.ok (r.getD (.v z))
    |none=>none
   |_=>none
  |_,_=>none
 | .um z m k=>match ev t m,ev t k with
  |some (.mp b),some (.v (.int q n))=>match get h b with
   |some (.map es)=>match uw es q n with
    |some r=>E.ok (.aT [r.getD (.v z),.v (.bool r.isSome)])
    |none=>none
   |_=>none
  |_,_=>none
 | .jO m k x=>match ev t m,ev t k,ev t x with
  |some (.mp b),some (.v (.int q n)),some y=>match get h b with
   |some (.map es)=>match wE es q n y with
    |some es'=>some ⟨True,.v undef,[(b,.map es')]⟩
    |none=>none
   |_=>none
  |_,_,_=>none
 | .lX e sz bytes zs l c=>match ev t l,ev t c with
  |some (.v (.int _ n)),some (.v (.int _ m))=>some ⟨0<=n/\n=m/\n*bytes<=140737488355328/\n<=9223372036854775807,.own nm sz 0 n.toNat,[(nm,.row e sz (List.replicate n.toNat (zs.map .v)))]⟩
  |_,_=>none
 | .app e sz bytes _zs s x=>match ev t s,kP h sz (ev t x) with
  |some (.v (.slice none 0 0)),some (p,news)=>some ⟨p/\news.length*bytes<=140737488355328/\news.length<=maxLen,.own nm sz 0 news.length,[(nm,.row e sz news)]⟩
  |some (.fn 2000000 [.sl sz' xs]),some (p,news)=>if sz=sz' then
   (if 0<news.length then some ⟨p/\(xs.length+news.length)*bytes<=140737488355328/\xs.length+news.length<=maxLen,.own nm sz 0 (xs.length+news.length),[(nm,.row e sz (xs++news))]⟩
   else some ⟨p,.sl sz xs,[]⟩) else none
  |some (.own b sz' off len),some (p,news)=>match get h b with
   |some (.row e' eB xs)=>if sz=sz'/\sz=eB/\e=e' then
    (if off+len+news.length<=xs.length then some ⟨p,.own b sz off (len+news.length),[(b,.row e sz (xs.take (off+len)++(news++xs.drop (off+len+news.length))))]⟩
    else some ⟨p/\(len+news.length)*bytes<=140737488355328/\len+news.length<=maxLen/\off+len<=xs.length,.own nm sz 0 (len+news.length),[(nm,.row e sz ((xs.drop off).take len++news)),(b,.dead)]⟩) else none
   |_=>none
  |_,_=>none
 | .slice sz x lo hi mx=>match mx,ev t x,bound t 0 lo with
  |none,some (.sl sz' xs),some l=>match bound t xs.length hi with
   |some r=>if sz=sz' then some ⟨0<=l/\l<=r/\r<=xs.length,.sl sz ((xs.take r.toNat).drop l.toNat),[]⟩ else none
   |none=>none
  |none,some (.own b sz' off len),some l=>match get h b,bound t len hi with
   |some (.row _ eB xs),some r=>if sz=sz' then some ⟨0<=l/\l<=r/\(r<=len\/(0<sz/\sz=eB/\off+r.toNat<=xs.length)),.own b sz' (off+l.toNat) (r.toNat - l.toNat),[]⟩ else none
   |_,_=>none
  |none,some (.v (.slice none 0 0)),some l=>match bound t 0 hi with
   |some r=>some ⟨l=0/\r=0,.v (.slice none 0 0),[]⟩
   |none=>none
  |some m,some (.sl sz' xs),some l=>match hi with
   |some y=>match ev t y,ev t m with
    |some (.v (.int _ r)),some (.v (.int _ c))=>if sz=sz' then some ⟨l=0/\r=c/\r=xs.length,.fn 2000000 [.sl sz xs],[]⟩ else none
    |_,_=>none
   |none=>none
  |some m,some (.v (.slice none 0 0)),some l=>match hi with
   |some y=>match ev t y,ev t m with
    |some (.v (.int _ r)),some (.v (.int _ c))=>some ⟨l=0/\r=0/\c=0,.v (.slice none 0 0),[]⟩
    |_,_=>none
   |none=>none
  |some m,some (.own b sz' off len),some l=>match hi with
   |some y=>match get h b,ev t y,ev t m with
    |some (.row _ _ _),some (.v (.int _ r)),some (.v (.int _ c))=>if sz=sz' then some ⟨0<=l/\l<=r/\r<=c/\c<=len,.own nm sz' 0 0,[(nm,.dead)]⟩ else none
    |_,_,_=>none
   |none=>none
  |_,_,_=>none
 | .uo n sz x=>match ev t x with
  |some (.ptr b 0)=>match get h b with
   |some (.box cs)=>if cs.length=n*sz/\0<n/\4<=b then E.ok (.own b sz 0 n) else none
   |_=>none
  |_=>none
 | .nK x lo hi=>match ev t x,bound t 0 lo with
  |some (.v (.string s)),some l=>match bound t s.size hi with
   |some r=>some ⟨0<=l/\l<=r/\r<=s.size,.v (.string (s.extract l.toNat r.toNat)),[]⟩
   |none=>none
  |_,_=>none
 | .idxs x i=>match ev t x,ev t i with
  |some (.v (.string s)),some (.v (.int _ n))=>some ⟨0<=n/\n<s.size,.v (.int .u8 (s.data[n.toNat]?.getD 0).toNat),[]⟩
  |_,_=>none
 | .idx ag len sz x i=>match ev t x,ev t i with
  |some (.agg cs),some (.v (.int _ n))=>if ag then some ⟨0<=n/\n<len/\n.toNat*sz+sz<=cs.length,.agg ((cs.drop (n.toNat*sz)).take sz),[]⟩
   else match cs[n.toNat*sz]? with
    |some c=>some ⟨0<=n/\n<len,c,[]⟩
    |none=>none
  |_,_=>none
 | .cap x=>match ev t x with
  |some (.v (.slice none _ c))=>E.ok (.v (.int .i64 c))
  |_=>none
 | .lm e sz bytes zs s x=>match ev t s,ev t x with
  |some (.v (.slice none 0 0)),some (.v (.int _ n))=>some ⟨0<n/\n*bytes<=140737488355328/\n<=9223372036854775807,.own nm sz 0 n.toNat,[(nm,.row e sz (List.replicate n.toNat (zs.map .v)))]⟩
  |_,_=>none
 | .lq sz zs x=>match ev t x with
  |some (.own b sz' off len)=>match get h b with
   |some (.row e eB xs)=>if sz=sz'/\sz=eB then some ⟨off+len<=xs.length,.v undef,[(b,.row e sz (xs.take off++(List.replicate len (zs.map .v)++xs.drop (off+len))))]⟩ else none
   |_=>none
  |_=>none
 | .copy sz d x=>match ev t d,kP h sz (ev t x) with
  |some (.own b sz' off len),some (p,ys)=>match get h b with
   |some (.row e eB xs)=>if sz=sz'/\sz=eB then some ⟨p/\off+len<=xs.length,.v (.int .i64 (Int.ofNat (min len ys.length))),[(b,.row e sz (xs.take off++(ys.take len++xs.drop (off+min len ys.length))))]⟩ else none
   |_=>none
  |_,_=>none
 | .l5 mx xs=>match kN t xs with
  |some [.v (.int k a),.v (.int k' b)]=>if k=k' then E.ok (.v (.int k (if mx then max a b else min a b))) else none
  |_=>none
 | .jP off x=>match ev t x with
  |some (.ptr b j)=>match get h b with
   |some (.box _)=>E.ok (.ptr b (j+off))
   |_=>none
  |some (.rp b sz k j)=>match get h b with
   |some (.row _ _ xs)=>some ⟨k<xs.length,.rp b sz k (j+off),[]⟩
   |_=>none
  |some (.bW cs j)=>E.ok (.bW cs (j+off))
  |_=>none
 | .nL ag off sz x=>match ev t x with
  |some (.agg cs)=>if ag then (if off+sz<=cs.length then E.ok (.agg ((cs.drop off).take sz)) else none) else match cs[off]? with
   |some c=>E.ok c
   |none=>none
  |_=>none
 | .lY sz x i=>match ev t x,ev t i with
  |some (.sl sz' xs),some (.v (.int _ n))=>if sz=sz' then some ⟨0<=n/\n<xs.length,.bW (nth xs n.toNat) 0,[]⟩ else none
  |some (.own b sz' off len),some (.v (.int _ n))=>match get h b with
   |some (.row _ eB _)=>if sz=sz'/\sz=eB then some ⟨0<=n/\n<len,.rp b sz' (off+n.toNat) 0,[]⟩ else none
   |_=>none
  |_,_=>none
 | .lZ len sz x i=>match ev t x,ev t i with
  |some (.ptr b j),some (.v (.int _ n))=>match get h b with
   |some (.box _)=>some ⟨0<=n/\n<len,.ptr b (j+n.toNat*sz),[]⟩
   |_=>none
  |_,_=>none
 | .nM x=>match ev t x with
  |some (.v (.string s))=>E.ok (.v (.int .i64 s.size))
  |_=>none
 | .len x=>match ev t x with
  |some (.v (.slice _ n _))=>E.ok (.v (.int .i64 n))
  |some (.sl _ xs)=>E.ok (.v (.int .i64 xs.length))
  |some (.own b _ _ n)=>match get h b with
   |some (.row _ _ _)=>E.ok (.v (.int .i64 n))
   |_=>none
  |_=>none
 | .ext i x=>match ev t x with
  |some (.aT cs)=>match cs[i]? with
   |some c=>E.ok c
   |none=>none
  |_=>none
 |_=>none
end Go.Eng
namespace Go.Eng
open Go
def Enters (P:Program) (f:FuncId):Prop:=∃ fn,P.funcs[f]? =some fn/\(fn.name== "runtime.NumGoroutine")=false/\fn.body.isNone=false
def AY (P:Program) (nm:Nat) (f:FuncId) (args:List AV) (h:List (Nat×Ob)) (Q:AV->List (Nat×Ob)->Prop):Prop:=
 Enters P f/\∀ C ρ U w vals,HR C ρ U h w->(∀ b,U b->¬ (nm<=b/\b<nm+8))->VL w (ay C ρ w) ρ U args vals->
  Calls P f vals w fun e w'=>∃ v r h' ρ' U',e= .returned v/\HR C ρ' U' h' w'/\VR w' (ay C ρ' w') ρ' U' r v/\
   (∀ x u,VR w (ay C ρ w) ρ U x u->VR w' (ay C ρ' w') ρ' U' x u)/\(∀ b,U' b->U b\/(nm<=b/\b<nm+8))/\Q r h'
def aZ (t:List (Nat×AV)) (dst:Option Nat) (x:AV):List (Nat×AV):=
 match dst with
 |some d=>(d,x)::t
 |none=>t
def Split (b:Bool) (x y:Prop):Prop:=(b=true->x)/\(b=false->y)
theorem AZ (x y:Prop):Split true x y=x:=by simp [Split]
theorem A7 (x y:Prop):Split false x y=y:=by simp [Split]
theorem Split.mk {b:Bool} {x y:Prop} (h:b=true->x) (h':b=false->y):Split b x y:=⟨h,h'⟩
def onE (x:Option E) (k:E->Prop):Prop:=match x with
 |some e=>e.pre/\k e
 |none=>False
def qm (x:Option AV) (k:Bool->Prop) (d:Prop):Prop:=match x with
 |some (.v (.bool b))=>k b
 |some (.v (.tuple _))=>d
 |_=>False
theorem qo (b:Bool) (k:Bool->Prop) (d:Prop):qm (some (.v (.bool b))) k d=k b:=rfl
def uy (x:Option AV) (y:Option (List AV)) (k:FuncId->List AV->Prop):Prop:=match x,y with
 |some (.fn g caps),some xs=>if g<1000000 then k g (xs++caps) else if g<2000000 then k (g - 1000000) (caps++xs) else False
 |_,_=>False
def DC (x:Option (Option Bool)) (k:Bool->Prop):Prop:=match x with
 |some (some b)=>k b
 |some none=>k true/\k false
 |none=>False
def GU (t:List (Nat×AV)) (h:List (Nat×Ob)) (t':List (Nat×AV)) (h':List (Nat×Ob)):Prop:=
 ∀ C ρ U a w,R C ρ U ⟨0,t,h⟩ a w->∃ ρ' U',R C ρ' U' ⟨0,t',h'⟩ a w/\∀ b,U' b->U b
def A8 (nm:Nat) (t:List (Nat×AV)) (h:List (Nat×Ob)) (op:SOp) (x:Option E) (k:List (Nat×AV)->List (Nat×Ob)->E->Prop):Prop:=match x with
 |some e=>e.pre/\k t h e
 |none=>∃ t' h',GU t h t' h'/\onE (av nm t' h' op) (k t' h')
def nP (P:Program) (nm:Nat) (o:SOper) (t:List (Nat×AV)) (h:List (Nat×Ob)) (Q:List (Nat×AV)->List (Nat×Ob)->Prop):Prop:=
 match o.op with
 | .call f args=>uy (ev t f) (kN t args) fun g xs=>AY P nm g xs h fun r h'=>Q (aZ t o.dst r) h'
 | .oM neg x=>DC (wD (ev t x)) fun b=>Q (aZ t o.dst (.v (.bool (if neg then !b else b)))) h
 |op=>A8 nm t h op (av nm t h op) fun t h e=>Q (aZ t o.dst e.val) (e.upd++h)
def wpOps (P:Program):Nat->List SOper->List (Nat×AV)->List (Nat×Ob)->(List (Nat×AV)->List (Nat×Ob)->Prop)->Prop
 |_,[],t,h,Q=>Q t h
 |nm,o::l,t,h,Q=>match o.guard with
  |none=>nP P nm o t h fun t' h'=>wpOps P (nm+8) l t' h' Q
  |some (g,want)=>qm (get t g)
   (fun b=>Split b
    (bif want then nP P nm o t h fun t' h'=>wpOps P (nm+8) l t' h' Q else wpOps P (nm+8) l (aZ t o.dst (.v undef)) h Q)
    (bif want then wpOps P (nm+8) l (aZ t o.dst (.v undef)) h Q else nP P nm o t h fun t' h'=>wpOps P (nm+8) l t' h' Q))
   (wpOps P (nm+8) l (aZ t o.dst (.v undef)) h Q)
def Wk (s s':St):Prop:=
 ∀ C ρ U a w,R C ρ U s a w->(∀ b,U b->b<s.n)->∃ ρ' U',R C ρ' U' s' a w/\(∀ b,U' b->b<s'.n)
structure Rec where
 val:AV
 upd:List (Nat×Ob)
 rd:List Nat
def sw (P:Program) (nm:Nat) (f:FuncId) (args:List AV) (h:List (Nat×Ob)) (r:Rec):Prop:=
 ∀ h',(∀ b ∈ r.rd,get h' b=get h b)->∀ Q:AV->List (Nat×Ob)->Prop,Q r.val (r.upd++h')->AY P nm f args h' Q
def sD:SOp->List Operand
 | .jL x=>[x]
 | .pick c a b=>[c,a,b]
 | .alloc _=>[]
 | .box x=>[x]
 | .build _ ps=>ps.map fun p=>p.2.2
 | .iJ _ _ _ _ ps=>ps.map fun p=>p.2
 | .load _ _ x=>[x]
 | .store _ x y=>[x,y]
 | .jM x=>[x]
 | .bin _ x y=>[x,y]
 | .eqs _ _ x y=>[x,y]
 | .jN _ x y=>[x,y]
 | .oM _ x=>[x]
 | .un _ x=>[x]
 | .conv _ x=>[x]
 | .rZ _ x=>[x]
 | .lg x=>[x]
 | .nJ _ cs=>cs
 | .yB _ cs=>cs
 | .oN=>[]
 | .look _ m k=>[m,k]
 | .um _ m k=>[m,k]
 | .jO m k x=>[m,k,x]
 | .lX _ _ _ _ l c=>[l,c]
 | .slice _ x lo hi mx=>x::(lo.toList++(hi.toList++mx.toList))
 | .nK x lo hi=>x::(lo.toList++hi.toList)
 | .uo _ _ x=>[x]
 | .jP _ x=>[x]
 | .nL _ _ _ x=>[x]
 | .lY _ x i=>[x,i]
 | .lZ _ _ x i=>[x,i]
 | .idx _ _ _ x i=>[x,i]
 | .idxs x i=>[x,i]
 | .len x=>[x]
 | .nM x=>[x]
 | .cap x=>[x]
 | .app _ _ _ _ s x=>[s,x]
 | .lm _ _ _ _ s x=>[s,x]
 | .lq _ _ x=>[x]
 | .copy _ d x=>[d,x]
 | .bad=>[]
 | .ext _ x=>[x]
 | .l5 _ xs=>xs
 | .call f args=>f::args
def sF:List Operand->List Nat
 |[]=>[]
 | .tmp k::l=>k::sF l
 |_::l=>sF l
def uses (o:SOper):List Nat:=match o.guard with
 |some (g,_)=>g::sF (sD o.op)
 |none=>sF (sD o.op)
def AV.iK:AV->List Nat
 | .own b _ _ _=>[b]
 | .ptr b _=>[b]
 | .rp b _ _ _=>[b]
 | .mp b=>[b]
 |_=>[]
def bX (x:Option AV):List Nat:=match x with
 |some y=>y.iK
 |none=>[]
def A9 (t:List (Nat×AV)):List (Nat×Operand)->List Nat
 |[]=>[]
 |(_,x)::l=>(match ev t x with
  |some y=>Dy y
  |none=>[])++A9 t l
def bR (t:List (Nat×AV)):SOp->List Nat
 | .load _ _ x=>bX (ev t x)
 | .store _ x _=>bX (ev t x)
 | .jM x=>bX (ev t x)
 | .lg x=>bX (ev t x)
 | .look _ m _=>bX (ev t m)
 | .um _ m _=>bX (ev t m)
 | .jO m _ _=>bX (ev t m)
 | .slice _ x _ _ _=>bX (ev t x)
 | .uo _ _ x=>bX (ev t x)
 | .jP _ x=>bX (ev t x)
 | .lY _ x _=>bX (ev t x)
 | .lZ _ _ x _=>bX (ev t x)
 | .len x=>bX (ev t x)
 | .cap x=>bX (ev t x)
 | .app _ _ _ _ s x=>bX (ev t s)++bX (ev t x)
 | .lm _ _ _ _ s x=>bX (ev t s)++bX (ev t x)
 | .lq _ _ x=>bX (ev t x)
 | .copy _ d x=>bX (ev t d)++bX (ev t x)
 | .iJ _ _ _ _ ps=>A9 t ps
 |_=>[]
def GV (x:Option (Option Bool)) (k:Bool->Prop):Prop:=match x with
 |some (some b)=>k b
 |_=>False
def yD (P:Program) (nm:Nat) (o:SOper) (t:List (Nat×AV)) (h:List (Nat×Ob)) (k:Rec->Prop):Prop:=
 match o.op with
 | .call f args=>uy (ev t f) (kN t args) fun g xs=>∃ r,sw P nm g xs h r/\k r
 | .oM neg x=>GV (wD (ev t x)) fun b=>k ⟨.v (.bool (if neg then !b else b)),[],[]⟩
 |op=>onE (av nm t h op) fun e=>k ⟨e.val,e.upd,bR t op⟩
abbrev aR:=List Nat×List Nat
def mg (P:Program):Nat->List SOper->List aR->List (Nat×AV)->List (Nat×Ob)->(List aR->List (Nat×AV)->List (Nat×Ob)->Prop)->Prop
 |_,[],acc,t,h,Q=>Q acc t h
 |nm,o::l,acc,t,h,Q=>match o.guard with
  |none=>yD P nm o t h fun r=>mg P (nm+8) l ((r.rd,r.upd.map Prod.fst)::acc) (aZ t o.dst r.val) (r.upd++h) Q
  |some (g,want)=>qm (get t g)
   (fun b=>Split b
    (bif want then yD P nm o t h fun r=>mg P (nm+8) l ((r.rd,r.upd.map Prod.fst)::acc) (aZ t o.dst r.val) (r.upd++h) Q
     else mg P (nm+8) l (([],[])::acc) (aZ t o.dst (.v undef)) h Q)
    (bif want then mg P (nm+8) l (([],[])::acc) (aZ t o.dst (.v undef)) h Q
     else yD P nm o t h fun r=>mg P (nm+8) l ((r.rd,r.upd.map Prod.fst)::acc) (aZ t o.dst r.val) (r.upd++h) Q))
   (mg P (nm+8) l (([],[])::acc) (aZ t o.dst (.v undef)) h Q)
def ja:List Nat->List (List Nat)->List Nat
 |acc,[]=>acc
 |acc,af::l=>ja (acc++[af.foldl (fun s e=>s|||(2 ^ e|||acc.getD e 0)) 0]) l
def Ba (xs ys:List Nat):Bool:=xs.all fun b=> !ys.contains b
def uz (x y:SOper×aR):Bool:=
 (match x.1.dst with
  |some d=> !(uses y.1).contains d&&y.1.dst !=some d
  |none=>true)&&
 ((match y.1.dst with
  |some d=> !(uses x.1).contains d
  |none=>true)&&
 (Ba x.2.2 y.2.1&&(Ba x.2.2 y.2.2&&Ba y.2.2 x.2.1)))
def Bb (jQ:List Nat) (all:List (SOper×aR)):Nat->List (SOper×aR)->Bool
 |_,[]=>true
 |j,y::l=>(all.take j).zipIdx.all (fun x=>(jQ.getD j 0).testBit x.2||uz x.1 y)&&Bb jQ all (j+1) l
def yE:Nat->List SOper->Bool
 |_,[]=>true
 |j,o::l=>o.after.all (fun e=>decide (e<j))&&yE (j+1) l
def iL (ops:List SOper) (fs:List aR):Bool:=
 yE 0 ops&&Bb (ja [] (ops.map (·.after))) (ops.zip fs) 0 (ops.zip fs)
def GX (P:Program) (nm:Nat) (ops:List SOper) (t:List (Nat×AV)) (h:List (Nat×Ob)) (Q:List (Nat×AV)->List (Nat×Ob)->Prop):Prop:=
 mg P nm ops [] t h fun acc t h=>iL ops acc.reverse=true/\Q t h
def GY (k:St->Prop) (Q:Exit->St->Prop) (e:Exit) (s:St):Prop:=match e with
 | .normal=>k s
 |e=>Q e s
def GZ (id:Nat) (Q:Exit->St->Prop) (e:Exit) (s:St):Prop:=match e with
 | .exit id'=>Q (if id'=id then .normal else .exit id') s
 |e=>Q e s
def aeu (body:(Exit->St->Prop)->St->Prop) (Q:Exit->St->Prop) (s:St):Prop:=
 ∃ (α:Type) (S:α->St) (μ:α->Nat) (a0:α),Wk s (S a0)/\
  ∀ a,body (GY (fun s'=>∃ a',μ a'<μ a/\Wk s' (S a')) Q) (S a)
def lu (P:Program):SCode->(Exit->St->Prop)->St->Prop
 | .skip,Q,s=>Q .normal s
 | .region ops draw,Q,s=>if draw=true then GX P s.n ops s.t s.h (fun t h=>Q .normal ⟨s.n+8*ops.length,t,h⟩)
  else wpOps P s.n ops s.t s.h fun t h=>Q .normal ⟨s.n+8*ops.length,t,h⟩
 | .seq a b,Q,s=>lu P a (GY (lu P b Q) Q) s
 | .cond c x y,Q,s=>qm (ev s.t c) (fun b=>Split b (lu P x Q s) (lu P y Q s)) False
 | .block id c,Q,s=>lu P c (GZ id Q) s
 | .loop c,Q,s=>aeu (lu P c) Q s
 | .exit id,Q,s=>Q (.exit id) s
 | .ret,Q,s=>Q .ret s
end Go.Eng
namespace Go.Eng
open Go
def zerosOf (P:Program) (t:TypeId):Option (List Value):=
 match P.info? t with
 |some i=>match i.zero with
  |some z=>some z.cells.toList
  |none=>none
 |none=>none
def sizeP (P:Program) (t:TypeId):Option Nat:=match P.info? t with
 |some i=>some i.size
 |none=>none
def bytesP (P:Program) (t:TypeId):Option Nat:=match P.info? t with
 |some i=>some i.bytes
 |none=>none
def aggP (P:Program) (t:TypeId):Option Bool:=match P.underlying t with
 |some (.struct _)=>some true
 |some (.array _ _)=>some true
 |some _=>some false
 |none=>none
def zeroVal (P:Program) (t:TypeId):Option Value:=match P.info? t with
 |some i=>i.zero
 |none=>none
def stripParts (P:Program) (fs:Array Field):List (Nat×Operand)->Option (List (Nat×Nat×Operand))
 |[]=>some []
 |(i,x)::l=>match fs[i]? with
  |some f=>match sizeP P f.type with
   |some sz=>match stripParts P fs l with
    |some r=>some ((f.offset,sz,x)::r)
    |none=>none
   |none=>none
  |none=>none
def kindsOf (P:Program):List Field->Nat->Option (List Nat)
 |[],_=>some []
 |f::fs,i=>if f.offset=i/\f.name≠ "_" then match P.underlying f.type,kindsOf P fs (i+1) with
  |some (.int _),some ks=>some (0::ks)
  |some .string,some ks=>some (1::ks)
  |some .bool,some ks=>some (2::ks)
  |_,_=>none else none
def kinds2 (P:Program):List Field->Nat->Option (List Nat)
 |[],_=>some []
 |f::fs,i=>if f.offset=i/\f.name≠ "_" then match P.underlying f.type with
  |some (.int _)=>(kinds2 P fs (i+1)).map (0::·)
  |some .string=>(kinds2 P fs (i+1)).map (1::·)
  |some .bool=>(kinds2 P fs (i+1)).map (2::·)
  |some (.struct gs)=>match kindsOf P gs.toList 0 with
   |some k1=>if P.stoodInHeld f.type=false/\sizeP P f.type=some k1.length then (kinds2 P fs (i+k1.length)).map (k1++·) else none
   |none=>none
  |_=>none else none
def strip (P:Program) (o:Oper):Option SOp:=
 match o.op with
 | .move x=>some (.jL x)
 | .assign x=>some (.jL x)
 | .pick c a b=>some (.pick c a b)
 | .alloc e=>match zerosOf P e with
  |some zs=>some (.alloc zs)
  |none=>none
 | .box _ x=>some (.box x)
 | .build t parts=>match P.underlying t with
  |some (.struct fs)=>match zerosOf P t with
   |some zs=>match stripParts P fs parts.toList with
    |some ps=>if (fs.toList.all fun f=>(sizeP P f.type).isSome)=true then some (.build zs ps) else none
    |none=>none
   |none=>none
  |some (.array _ e)=>match zerosOf P t with
   |some zs=>match sizeP P e with
    |some sz=>some (.build zs (parts.toList.map fun p=>(p.1*sz,sz,p.2)))
    |none=>none
   |none=>none
  |_=>none
 | .buildSlice t len parts=>match P.underlying t with
  |some (.slice e)=>match zerosOf P e with
   |some zs=>match sizeP P e with
    |some sz=>if zs.length=sz/\0<sz/\len*sz<=16777216/\zs.all Value.oneCell'=true then some (.iJ e sz zs len parts.toList) else none
    |none=>none
   |none=>none
  |_=>none
 | .load t x=>match aggP P t with
  |some ag=>match sizeP P t with
   |some sz=>some (.load ag sz x)
   |none=>none
  |none=>none
 | .store t a v=>match sizeP P t with
  |some sz=>some (.store sz a v)
  |none=>none
 | .nilCheck x=>some (.jM x)
 | .binOp op t x y _=>match P.underlying t with
  |some (.struct fs)=>match kinds2 P fs.toList 0 with
   |some ks=>if P.stoodInHeld t=false/\P.eqGuardType P.depth t=false then match op with
    | .eql=>some (.eqs false ks x y)
    | .neq=>some (.eqs true ks x y)
    |_=>none else none
   |none=>some .bad
  |some (.int _)=>some (.bin op x y)
  |some .string=>some (.bin op x y)
  |some .bool=>match op with
   | .eql=>some (.jN false x y)
   | .neq=>some (.jN true x y)
   |_=>none
  |some (.slice _)=>match op,y with
   | .eql,.const (.slice none _ _)=>some (.oM false x)
   | .neq,.const (.slice none _ _)=>some (.oM true x)
   |_,_=>none
  |_=>none
 | .unOp op _ x=>some (.un op x)
 | .convert src dst x=>match P.underlying src,P.underlying dst with
  |some (.int _),some (.int k)=>some (.conv k x)
  |some .string,some (.slice e)=>match P.underlying e with
   |some (.int .u8)=>some (.rZ e x)
   |_=>none
  |some (.slice e),some .string=>match P.underlying e with
   |some (.int .u8)=>some (.lg x)
   |_=>none
  |_,_=>none
 | .makeFunc (.func f) first caps=>if first.size=0 then some (.nJ f caps.toList) else if caps.size=0 then some (.yB f first.toList) else none
 | .makeMap _ none=>some .oN
 | .lookup t m k false=>match P.underlying t with
  |some (.map kt et)=>match P.underlying kt,zeroVal P et with
   |some (.int _),some z=>some (.look z m k)
   |_,_=>none
  |_=>none
 | .lookup t m k true=>match P.underlying t with
  |some (.map kt et)=>match P.underlying kt,zeroVal P et with
   |some (.int _),some z=>some (.um z m k)
   |_,_=>none
  |_=>none
 | .mapUpdate t m k x=>match P.underlying t with
  |some (.map kt _)=>match P.underlying kt with
   |some (.int _)=>some (.jO m k x)
   |_=>none
  |_=>none
 | .insert t m k x=>match P.underlying t with
  |some (.map kt _)=>match P.underlying kt with
   |some (.int _)=>some (.jO m k x)
   |_=>none
  |_=>none
 | .makeSlice t l c=>match P.underlying t with
  |some (.slice e)=>match zerosOf P e,sizeP P e,bytesP P e with
   |some zs,some sz,some aP=>if zs.length=sz/\0<sz/\zs.all Value.oneCell'=true then some (.lX e sz aP zs l c) else none
   |_,_,_=>none
  |_=>none
 | .slice t x lo hi mx=>match P.underlying t with
  |some (.slice e)=>match sizeP P e with
   |some sz=>some (.slice sz x lo hi mx)
   |none=>none
  |some .string=>match mx with
   |none=>some (.nK x lo hi)
   |some _=>none
  |some (.array n el)=>match lo,hi,mx with
   |none,none,none=>match sizeP P el with
    |some sz=>some (.uo n sz x)
    |none=>none
   |_,_,_=>none
  |_=>none
 | .fieldAddr s x f=>match P.underlying s with
  |some (.struct fs)=>match fs[f]? with
   |some fd=>match sizeP P fd.type with
    |some sz=>if sz=0 then none else some (.jP fd.offset x)
    |none=>none
   |none=>none
  |_=>none
 | .field t x f=>match P.underlying t with
  |some (.struct fs)=>match fs[f]? with
   |some fd=>match sizeP P fd.type,aggP P fd.type with
    |some sz,some ag=>some (.nL ag fd.offset sz x)
    |_,_=>none
   |none=>none
  |_=>none
 | .indexAddr t x i=>match P.underlying t with
  |some (.slice e)=>match sizeP P e with
   |some sz=>some (.lY sz x i)
   |none=>none
  |some (.array n e)=>match sizeP P e with
   |some sz=>some (.lZ n sz x i)
   |none=>none
  |_=>none
 | .index t x i=>match P.underlying t with
  |some (.array n e)=>match sizeP P e,aggP P e with
   |some sz,some ag=>some (.idx ag n sz x i)
   |_,_=>none
  |some .string=>some (.idxs x i)
  |_=>none
 | .extract x i=>some (.ext i x)
 | .makeInterface _ _=>some .bad
 | .panic _=>some .bad
 | .call c=>match c.callee with
  | .value f=>some (.call f c.args.toList)
  | .builtin .len=>match c.argTypes[0]?,c.args[0]? with
   |some t,some x=>match P.underlying t with
    |some (.slice _)=>some (.len x)
    |some .string=>some (.nM x)
    |_=>none
   |_,_=>none
  | .builtin .cap=>match c.argTypes[0]?,c.args[0]? with
   |some t,some x=>match P.underlying t with
    |some (.slice _)=>some (.cap x)
    |_=>none
   |_,_=>none
  | .builtin .append=>match c.argTypes.toList,c.args.toList with
   |[t,t'],[s,x]=>if t=t' then match P.underlying t with
    |some (.slice e)=>match zerosOf P e,sizeP P e,bytesP P e with
     |some zs,some sz,some aP=>if zs.length=sz/\0<sz then some (.app e sz aP zs s x) else none
     |_,_,_=>none
    |_=>none else match P.underlying t,P.underlying t' with
    |some (.slice e),some (.int _)=>match zerosOf P e,sizeP P e,bytesP P e with
     |some zs,some sz,some aP=>if zs.length=sz/\0<sz/\zs.all Value.oneCell'=true then some (.lm e sz aP zs s x) else none
     |_,_,_=>none
    |_,_=>none
   |_,_=>none
  | .builtin .clear=>match c.argTypes[0]?,c.args[0]? with
   |some t,some x=>match P.underlying t with
    |some (.slice e)=>match zerosOf P e,sizeP P e with
     |some zs,some sz=>if zs.length=sz/\0<sz/\zs.all Value.oneCell'=true then some (.lq sz zs x) else none
     |_,_=>none
    |_=>none
   |_,_=>none
  | .builtin .max=>some (.l5 true c.args.toList)
  | .builtin .min=>some (.l5 false c.args.toList)
  | .builtin .copy=>match c.argTypes[0]?,c.args.toList with
   |some t,[d,x]=>match P.underlying t with
    |some (.slice e)=>match sizeP P e with
     |some sz=>if 0<sz then some (.copy sz d x) else some .bad
     |none=>some .bad
    |_=>some .bad
   |_,_=>some .bad
  |_=>none
 |_=>none
def stripOper (P:Program) (ops:Array Oper) (draw:Bool) (o:Oper):Option SOper:=
 match strip P o with
 |some so=>match o.guard with
  |none=>some ⟨o.dst,so,none,if draw then (o.after.toList.filterMap fun e=>match e.ground with| .textOnly _=>none| .gcOnly _=>none|_=>some e.on) else []⟩
  |some (j,w)=>match ((ops[j]?).bind (·.dst)) with
   |some g=>some ⟨o.dst,so,some (g,w),if draw then (o.after.toList.filterMap fun e=>match e.ground with| .textOnly _=>none| .gcOnly _=>none|_=>some e.on) else []⟩
   |none=>none
 |none=>none
def stripOps (P:Program) (ops:Array Oper) (draw:Bool):List Oper->Option (List SOper)
 |[]=>some []
 |o::l=>match stripOper P ops draw o with
  |some so=>match stripOps P ops draw l with
   |some sl=>some (so::sl)
   |none=>none
  |none=>none
def stripCode (P:Program):Code->Option SCode
 | .skip=>some .skip
 | .region _ ops draw=>match stripOps P ops draw ops.toList with
  |some l=>some (.region l draw)
  |none=>none
 | .seq a b=>match stripCode P a with
  |some a'=>match stripCode P b with
   |some b'=>some (.seq a' b')
   |none=>none
  |none=>none
 | .cond c x y=>match stripCode P x with
  |some x'=>match stripCode P y with
   |some y'=>some (.cond c x' y')
   |none=>none
  |none=>none
 | .block id c=>match stripCode P c with
  |some c'=>some (.block id c')
  |none=>none
 | .loop c=>match stripCode P c with
  |some c'=>some (.loop c')
  |none=>none
 | .exit id=>some (.exit id)
 | .ret=>some .ret
 |_=>none
end Go.Eng
namespace Go.Eng
open Go
def Tm (C:Ctx) (ρ:Nat->Loc) (U:Nat->Prop) (w:World) (t:List (Nat×AV)) (a:Act):Prop:=
 ∀ k x,get t k=some x->∃ u,a.tmps[k]? =some u/\VR w (ay C ρ w) ρ U x u
def Run (C:Ctx) (ρ:Nat->Loc) (U:Nat->Prop) (h:List (Nat×Ob)) (w:World) (nm:Nat) (r:Result Next) (e:E):Prop:=
 ∃ v w' ρ' U',(r= .ok (.value v) w'\/(v=undef/\r= .ok .skip w'))/\HR C ρ' U' (e.upd++h) w'/\VR w' (ay C ρ' w') ρ' U' e.val v/\
  (∀ x u,VR w (ay C ρ w) ρ U x u->VR w' (ay C ρ' w') ρ' U' x u)/\(∀ b,U' b->U b\/b=nm)
section
variable {P:Program} {C:Ctx} {ρ:Nat->Loc} {U:Nat->Prop} {h:List (Nat×Ob)} {w:World} {nm:Nat} {t:List (Nat×AV)} {a:Act}
theorem Run.same (hr:HR C ρ U h w) {x:AV} {v:Value} (hv:VR w (ay C ρ w) ρ U x v) (p:Prop):Run C ρ U h w nm (.ok (.value v) w) ⟨p,x,[]⟩:=
 ⟨v,w,ρ,U,.inl rfl,hr,hv,fun _ _ h=>h,fun _ h=> .inl h⟩
theorem Run.moved (hr:HR C ρ U h w) {b:Nat} {l:Loc} {w':World} {ob:Ob} {x:AV} {v:Value} {r:Result Next} (hm:Moved C ρ U h w b l w')
  (hb:(∃ cs,get h b=some (.box cs))->∃ cs,ob= .box cs) (ho:dV w' (ay C (up ρ b l) w') (up ρ b l) (fV U b) l ob)
  (hrun:r= .ok (.value v) w'\/(v=undef/\r= .ok .skip w')) (hv:VR w' (ay C (up ρ b l) w') (up ρ b l) (fV U b) x v) (hn:U b\/b=nm) (p:Prop):
  Run C ρ U h w nm r ⟨p,x,[(b,ob)]⟩:=
 ⟨v,w',_,_,hrun,hm.hr hr hb ho,hv,fun _ _ h=>hm.vr h,fun k hk=>hk.elim .inl fun e=>by
  subst e;exact hn⟩
theorem aL (ht:Tm C ρ U w t a) {x:Operand} {y:AV} (h:ev t x=some y):VR w (ay C ρ w) ρ U y (a.eval x):=by
 cases x with
 |tmp k=>
  obtain ⟨u,h1,h2⟩:=ht k y h
  have:a.eval (.tmp k)=u:=by
   simp only [Act.eval]
   have h3:=Array.getElem?_eq_some_iff.1 h1
   obtain ⟨hlt,he⟩:=h3
   simp [Array.getD,hlt,he]
  rw [this];exact h2
 |const v=>simp only [ev,Option.some.injEq] at h;subst h;exact .p (.v v)
 |global g=>simp [ev] at h
 |func f=>
  simp only [ev] at h
  split at h
  ·rename_i hf
   simp only [Option.some.injEq] at h;subst h
   have:=VR.fn (w:=w) (ok:=ay C ρ w) (ρ:=ρ) (U:=U) (f:=f) (cs:=[]) (vs:= #[]) (Nat.lt_trans hf (by decide)) rfl (by simp)
   rw [nI,if_pos hf] at this
   exact this
  ·cases h
theorem yF (ht:Tm C ρ U w t a):∀ {xs:List Operand} {ys:List AV},kN t xs=some ys->VL w (ay C ρ w) ρ U ys (xs.map a.eval).toArray
 |[],ys,h=>by simp only [kN,Option.some.injEq] at h;subst h;exact ⟨rfl,by simp⟩
 |x::xs,ys,h=>by
  simp only [kN] at h
  split at h
  ·rename_i y ys' h1 h2
   simp only [Option.some.injEq] at h;subst h
   have ih:=yF ht h2
   refine ⟨by have:=ih.1;simp at this;simp [this],fun i c u hc hu=> ?_⟩
   cases i with
   |zero=>simp at hc hu;subst hc;subst hu;exact aL ht h1
   |succ i=>
    refine ih.2 i c u (by simpa using hc) ?_
    simpa using hu
  ·cases h
theorem VP.yG {w:World} {ok:Nat->Prop} {ρ:Nat->Loc} {U:Nat->Prop} {x:AV} {u:Value} (h:VR w ok ρ U x u):x.pure=true->VP w ok x u:=by
 have key:∀ (cs:List AV),fB cs=true->∀ (i:Nat) (c:AV),cs[i]? =some c->c.pure=true:=by
  intro cs
  induction cs with
  |nil=>intro _ i c h;simp at h
  |cons d cs ih=>
   intro hp i c hc
   simp only [fB,Bool.and_eq_true] at hp
   cases i with
   |zero=>simp at hc;subst hc;exact hp.1
   |succ i=>exact ih hp.2 i c (by simpa using hc)
 induction h with
 |p h=>exact fun _=>h
 |agg hl _ ih=>exact fun hp=> .agg hl fun i c u hc hu=>ih i c u hc hu (key _ (by simpa [AV.pure] using hp) i c hc)
 |aT hl _ ih=>exact fun hp=> .aT hl fun i c u hc hu=>ih i c u hc hu (key _ (by simpa [AV.pure] using hp) i c hc)
 |fn hf hl _ ih=>exact fun hp=> .fn hf hl fun i c u hc hu=>ih i c u hc hu (key _ (by simpa [AV.pure] using hp) i c hc)
 |own hu h=>intro hp;simp [AV.pure] at hp
 |ptr a hu h=>intro hp;simp [AV.pure] at hp
 |rp a hu h=>intro hp;simp [AV.pure] at hp
 |mp a hu h=>intro hp;simp [AV.pure] at hp
theorem DI:∀ (cs:List AV),fB cs=true->∀ (i:Nat) (c:AV),cs[i]? =some c->c.pure=true:=by
 intro cs
 induction cs with
 |nil=>intro _ i c h;simp at h
 |cons d cs ih=>
  intro hp i c hc
  simp only [fB,Bool.and_eq_true] at hp
  cases i with
  |zero=>simp at hc;subst hc;exact hp.1
  |succ i=>exact ih hp.2 i c (by simpa using hc)
theorem Mq:∀ (cs:List AV),qj cs=true->∀ (i:Nat) (c:AV),cs[i]? =some c->c.one=true:=by
 intro cs
 induction cs with
 |nil=>intro _ i c h;simp at h
 |cons d cs ih=>
  intro hp i c hc
  simp only [qj,Bool.and_eq_true] at hp
  cases i with
  |zero=>simp at hc;subst hc;exact hp.1
  |succ i=>exact ih hp.2 i c (by simpa using hc)
theorem VR.one {x:AV} {u:Value} {ok:Nat->Prop} (h:VR w ok ρ U x u) (h1:x.one=true):u.oneCell'=true:=by
 cases h with
 |p h=>
  cases h<;>first|rfl|(simp [AV.one] at h1;done)|(simpa [AV.one] using h1)|(unfold nI;split<;>rfl)|(rename_i hc;rcases hc with rfl|⟨a,n,rfl⟩<;>rfl)
 |agg=>simp [AV.one] at h1
 |aT=>simp [AV.one] at h1
 |fn=>unfold nI;split<;>rfl
 |own hu h=>obtain ⟨⟨a,n,c,e⟩,_⟩:=h;rw [e];rfl
 |ptr=>rfl
 |rp=>rfl
 |mp=>rfl
theorem yH {ok:Nat->Prop} {x:AV} {u:Value} {cs:List AV} (h:VR w ok ρ U x u) (hc:nN x=some cs):
  VL w ok ρ U cs u.cells/\(∀ (i:Nat) (v:Value),u.cells[i]? =some v->v.oneCell'=true)/\qj cs=true:=by
 by_cases hx:∃ l,x= .agg l
 ·obtain ⟨l,rfl⟩:=hx
  simp only [nN] at hc
  split at hc
  ·rename_i h1
   simp only [Option.some.injEq] at hc;subst hc
   obtain ⟨vs,rfl,hv⟩:=h.yA
   refine ⟨hv,fun i v hi=> ?_,h1⟩
   simp only [Value.cells] at hi
   have hlt:i<l.length:=by rw [hv.1];exact (Array.getElem?_eq_some_iff.1 hi).1
   exact (hv.2 i _ v (List.getElem?_eq_getElem hlt) hi).one (Mq _ h1 i _ (List.getElem?_eq_getElem hlt))
  ·cases hc
 ·have hc':(if x.one=true then some [x] else none)=some cs:=by
   cases x<;>first|(exact absurd ⟨_,rfl⟩ hx)|exact hc
  split at hc'
  ·rename_i h1
   simp only [Option.some.injEq] at hc';subst hc'
   have h2:=h.one h1
   have h3:u.cells= #[u]:=by cases u<;>first|rfl|(simp [Value.oneCell'] at h2)
   rw [h3]
   refine ⟨⟨rfl,fun i c v hi hv=> ?_⟩,fun i v hi=> ?_,by simp [qj,h1]⟩
   ·cases i with
    |zero=>simp at hi hv;subst hi;subst hv;exact h
    |succ i=>simp at hi
   ·cases i with
    |zero=>simp at hi;subst hi;exact h2
    |succ i=>simp at hi
  ·cases hc'
end
end Go.Eng
namespace Go.Eng
open Go
section
variable {P:Program} {C:Ctx} {ρ:Nat->Loc} {U:Nat->Prop} {h:List (Nat×Ob)} {w:World} {nm:Nat} {t:List (Nat×AV)} {a:Act} {o:Oper} {e:E}
theorem Mr (hr:HR C ρ U h w) (ht:Tm C ρ U w t a) {x:Operand} (ho:o.op= .move x\/o.op= .assign x) (he:av nm t h (.jL x)=some e):
  Run C ρ U h w nm ((execOp a.eval o).run P w) e:=by
 simp only [av] at he
 split at he
 ·rename_i y hy
  simp only [E.ok,Option.some.injEq] at he;subst he
  have hv:=aL ht hy
  rcases ho with ho|ho<;>(simp only [execOp,ho,Sem.run_pure];exact .same hr hv True)
 ·cases he
theorem aev (hr:HR C ρ U h w) (ht:Tm C ρ U w t a) {c x y:Operand} (ho:o.op= .pick c x y) (he:av nm t h (.pick c x y)=some e):
  Run C ρ U h w nm ((execOp a.eval o).run P w) e:=by
 simp only [av] at he
 split at he
 ·rename_i hc
  have hc':=(aL ht hc).bA
  split at he
  ·rename_i z hz
   simp only [E.ok,Option.some.injEq] at he;subst he
   simp only [execOp,ho,hc',asBool,Sem.run_bind,Sem.run_pure,Result.andThen_ok,if_true]
   exact .same hr (aL ht hz) True
  ·cases he
 ·rename_i hc
  have hc':=(aL ht hc).bA
  split at he
  ·rename_i z hz
   simp only [E.ok,Option.some.injEq] at he;subst he
   simp only [execOp,ho,hc',asBool,Sem.run_bind,Sem.run_pure,Result.andThen_ok,Bool.false_eq_true,if_false]
   exact .same hr (aL ht hz) True
  ·cases he
 ·cases he
theorem aew (hr:HR C ρ U h w) (ht:Tm C ρ U w t a) {op:UnOp} {ty:TypeId} {x:Operand} (ho:o.op= .unOp op ty x) (he:av nm t h (.un op x)=some e):
  Run C ρ U h w nm ((execOp a.eval o).run P w) e:=by
 simp only [av] at he
 split at he
 ·rename_i b hx
  have hc:=(aL ht hx).bA
  simp only [E.ok,Option.some.injEq] at he;subst he
  simp only [execOp,ho,hc,Op.unary,Sem.run_bind,Sem.run_pure,Result.andThen_ok]
  exact .same hr (.p (.v _)) True
 ·rename_i k n hx
  have hc:=(aL ht hx).bA
  simp only [E.ok,Option.some.injEq] at he;subst he
  simp only [execOp,ho,hc,Op.unary,Op.intArith,Sem.run_bind,Sem.run_pure,Result.andThen_ok]
  exact .same hr (.p (.v _)) True
 ·cases he
theorem aex (hr:HR C ρ U h w) (ht:Tm C ρ U w t a) {i:Nat} {x:Operand} (ho:o.op= .extract x i) (he:av nm t h (.ext i x)=some e):
  Run C ρ U h w nm ((execOp a.eval o).run P w) e:=by
 simp only [av] at he
 split at he
 ·rename_i cs hx
  obtain ⟨vs,hu,hv⟩:=(aL ht hx).Mk
  split at he
  ·rename_i c hc
   simp only [E.ok,Option.some.injEq] at he;subst he
   have hlt:i<vs.size:=by rw [<-hv.1];exact (List.getElem?_eq_some_iff.1 hc).1
   have hg:vs[i]? =some vs[i]:=Array.getElem?_eq_getElem hlt
   simp only [execOp,ho,hu,Instr.extract,hg,Sem.run_bind,Sem.run_pure,Result.andThen_ok]
   exact .same hr (hv.2 i c _ hc hg) True
  ·cases he
 ·cases he
theorem aey {op:BinOp} {ty:TypeId} {k k':IntKind} {x y:Int} {z:Value} (hz:bP op (.int k x) (.int k' y)=some z) (w:World):
  (binOp op ty (.int k x) (.int k' y)).run P w= .ok z w:=by
 by_cases hk:k=k'
 ·subst hk
  cases op<;>simp [bP] at hz<;>subst hz<;>first
   |(simp [binOp,Op.intArith];done)
   |(simp [binOp,Op.intCmp];done)
   |(simp [binOp,Op.intBits,bits];done)
 ·cases op<;>simp [bP,hk] at hz
theorem Ms {op:BinOp} {ty:TypeId} {x y z:Value} (hz:bP op x y=some z) (w:World):(binOp op ty x y).run P w= .ok z w:=by
 cases x with
 |int k n=>cases y with
  |int k' m=>exact aey hz w
  |_=>cases op<;>simp [bP] at hz
 |string s=>cases y with
  |string s'=>cases op<;>simp [bP] at hz<;>subst hz<;>simp [binOp,Op.stringOp]
  |_=>cases op<;>simp [bP] at hz
 |_=>cases op<;>simp [bP] at hz
theorem Mt {op:BinOp} {ty:TypeId} {x y z:Value} {p:Prop} (hz:nO op x y=some (p,z)) (hp:p) (w:World):(binOp op ty x y).run P w= .ok z w:=by
 cases x with
 |int k n=>cases y with
  |int k' m=>
   by_cases hk:k=k'
   ·subst hk
    cases op<;>simp [nO] at hz<;>obtain ⟨h1,rfl⟩:=hz<;>replace hp:=h1.2 hp<;>first
     |(simp [binOp,Op.intDiv,hp];done)
     |(simp [binOp,Op.shift,show ¬ m<0 from by omega];done)
   ·cases op<;>simp [nO,hk] at hz<;>obtain ⟨h1,rfl⟩:=hz<;>replace hp:=h1.2 hp<;>(simp [binOp,Op.shift,show ¬ m<0 from by omega])
  |_=>cases op<;>simp [nO] at hz
 |string s=>cases y with
  |string s'=>
   cases op<;>simp [nO] at hz
   obtain ⟨h1,rfl⟩:=hz
   replace hp:=h1.2 hp
   unfold maxLen at hp
   simp [binOp,Op.stringOp]
   omega
  |_=>cases op<;>simp [nO] at hz
 |_=>cases op<;>simp [nO] at hz
theorem DJ {op:BinOp} {ty:TypeId} {x y:Operand} {u v:Value} (hu:(∃ k n,u= .int k n)\/(∃ s,u= .string s)\/(∃ b,u= .bool b)):eqGuard op ty x y u v=pure ():=by
 rcases hu with ⟨k,n,rfl⟩|⟨s,rfl⟩|⟨b,rfl⟩
 ·exact eqGuard_at_int ..
 ·exact eqGuard_at_string ..
 ·exact eqGuard_at_bool ..
theorem Mv {op:BinOp} {x y z:Value} (hz:bP op x y=some z):(∃ k n,x= .int k n)\/(∃ s,x= .string s)\/(∃ b,x= .bool b):=by
 cases x with
 |int k n=>exact .inl ⟨k,n,rfl⟩
 |string s=>exact .inr (.inl ⟨s,rfl⟩)
 |_=>cases op<;>simp [bP] at hz
theorem Mw {op:BinOp} {x y:Value} {z:Prop×Value} (hz:nO op x y=some z):(∃ k n,x= .int k n)\/(∃ s,x= .string s)\/(∃ b,x= .bool b):=by
 cases x with
 |int k n=>exact .inl ⟨k,n,rfl⟩
 |string s=>exact .inr (.inl ⟨s,rfl⟩)
 |_=>cases op<;>simp [nO] at hz
theorem Mx (hr:HR C ρ U h w) (ht:Tm C ρ U w t a) {op:BinOp} {ty ty':TypeId} {x y:Operand} (ho:o.op= .binOp op ty x y ty') (he:av nm t h (.bin op x y)=some e) (hp:e.pre):
  Run C ρ U h w nm ((execOp a.eval o).run P w) e:=by
 simp only [av] at he
 split at he
 ·rename_i u v hx hy
  have e1:=(aL ht hx).bA
  have e2:=(aL ht hy).bA
  split at he
  ·rename_i z hz
   simp only [E.ok,Option.some.injEq] at he;subst he
   simp only [execOp,ho,e1,e2,DJ (Mv hz),Sem.run_bind,Sem.run_pure,Result.andThen_ok,Ms hz]
   exact .same hr (.p (.v _)) True
  ·split at he
   ·rename_i p z hz
    simp only [Option.some.injEq] at he;subst he
    simp only [execOp,ho,e1,e2,DJ (Mw hz),Sem.run_bind,Sem.run_pure,Result.andThen_ok,Mt hz hp]
    exact .same hr (.p (.v _)) p
   ·cases he
 ·cases he
theorem MB (hr:HR C ρ U h w) (ht:Tm C ρ U w t a) {neg:Bool} {ty ty':TypeId} {x y:Operand} (hty:P.underlying ty=some .bool)
  (ho:o.op= .binOp (if neg then .neq else .eql) ty x y ty') (he:av nm t h (.jN neg x y)=some e):
  Run C ρ U h w nm ((execOp a.eval o).run P w) e:=by
 simp only [av] at he
 split at he
 ·rename_i u v hx hy
  have e1:=(aL ht hx).bA
  have e2:=(aL ht hy).bA
  simp only [E.ok,Option.some.injEq] at he;subst he
  cases neg
  ·simp only [Bool.false_eq_true,if_false] at ho ⊢
   simp only [execOp,ho,e1,e2,eqGuard_at_bool,Sem.run_bind,Sem.run_pure,Result.andThen_ok,run_eql_bool _ _ _ _ hty]
   exact .same hr (.p (.v _)) True
  ·simp only [if_true] at ho ⊢
   have hb:=run_eql_bool (P:=P) w ty u v hty
   simp only [binOp,Sem.run_bind] at hb
   simp only [execOp,ho,e1,e2,eqGuard_at_bool,Sem.run_bind,Sem.run_pure,Result.andThen_ok,binOp]
   cases hq:(Op.equal ty (Value.bool u) (Value.bool v)).run P w with
   |ok r w'=>
    rw [hq] at hb
    simp only [Result.andThen_ok,Sem.run_pure,Result.ok.injEq,Value.bool.injEq] at hb
    obtain ⟨rfl,rfl⟩:=hb
    simp only [Result.andThen_ok,Sem.run_pure]
    exact .same hr (.p (.v _)) True
   |halt r w'=>rw [hq] at hb;simp at hb
 ·cases he
theorem aez (hr:HR C ρ U h w) (ht:Tm C ρ U w t a) {k k0:IntKind} {src dst:TypeId} {x:Operand} (h1:P.underlying src=some (.int k0)) (h2:P.underlying dst=some (.int k))
  (ho:o.op= .convert src dst x) (he:av nm t h (.conv k x)=some e):Run C ρ U h w nm ((execOp a.eval o).run P w) e:=by
 simp only [av] at he
 split at he
 ·rename_i k' n hx
  have e1:=(aL ht hx).bA
  simp only [E.ok,Option.some.injEq] at he;subst he
  simp only [execOp,ho,e1,convert,Sem.run_bind,run_underlying h1,run_underlying h2,Result.andThen_ok,Conv.intToInt]
  exact .same hr (.p (.v _)) True
 ·cases he
theorem aeA (hr:HR C ρ U h w) (ht:Tm C ρ U w t a) {f:FuncId} {first caps:Array Operand} (hf:first.size=0) (ho:o.op= .makeFunc (.func f) first caps)
  (he:av nm t h (.nJ f caps.toList)=some e):Run C ρ U h w nm ((execOp a.eval o).run P w) e:=by
 simp only [av] at he
 split at he
 ·rename_i cs hc
  split at he
  ·rename_i hlt
   simp only [E.ok,Option.some.injEq] at he;subst he
   have hv:=yF ht hc
   have e1:first.map a.eval= #[]:=by rw [Array.eq_empty_of_size_eq_zero hf];simp
   have e2:caps.map a.eval=(caps.toList.map a.eval).toArray:=by apply Array.ext';simp
   simp only [execOp,ho,Instr.makeFunc,e1,e2,Sem.run_bind,Sem.run_pure,Result.andThen_ok]
   have:=VR.fn (w:=w) (ok:=ay C ρ w) (ρ:=ρ) (U:=U) (f:=f) (Nat.lt_trans hlt (by decide)) hv.1 hv.2
   rw [nI,if_pos hlt] at this
   exact .same hr this True
  ·cases he
 ·cases he
theorem aeB (hr:HR C ρ U h w) (ht:Tm C ρ U w t a) {f:FuncId} {first caps:Array Operand} (hf:caps.size=0) (ho:o.op= .makeFunc (.func f) first caps)
  (he:av nm t h (.yB f first.toList)=some e):Run C ρ U h w nm ((execOp a.eval o).run P w) e:=by
 simp only [av] at he
 split at he
 ·rename_i cs hc
  split at he
  ·rename_i hlt
   simp only [E.ok,Option.some.injEq] at he;subst he
   have hv:=yF ht hc
   have e1:caps.map a.eval= #[]:=by rw [Array.eq_empty_of_size_eq_zero hf];simp
   have e2:first.map a.eval=(first.toList.map a.eval).toArray:=by apply Array.ext';simp
   simp only [execOp,ho,Instr.makeFunc,e1,e2,Sem.run_bind,Sem.run_pure,Result.andThen_ok]
   have:=VR.fn (w:=w) (ok:=ay C ρ w) (ρ:=ρ) (U:=U) (f:=f+1000000) (Nat.add_lt_add_right hlt 1000000) hv.1 hv.2
   rw [nI,if_neg (Nat.not_lt.mpr (Nat.le_add_left _ _)),Nat.add_sub_cancel] at this
   exact .same hr this True
  ·cases he
 ·cases he
end
end Go.Eng
namespace Go.Eng
open Go
section
variable {P:Program} {C:Ctx} {ρ:Nat->Loc} {U:Nat->Prop} {h:List (Nat×Ob)} {w:World} {nm:Nat} {t:List (Nat×AV)} {a:Act} {o:Oper} {e:E}
theorem aeC {ty:TypeId} {sz:Nat} (hs:sizeP P ty=some sz):∃ i,P.info? ty=some i/\i.size=sz:=by
 unfold sizeP at hs
 split at hs
 ·rename_i i hi;simp only [Option.some.injEq] at hs;exact ⟨i,hi,hs⟩
 ·cases hs
theorem cu {ty:TypeId} {sz:Nat} (hs:sizeP P ty=some sz) (w:World):(sizeOf ty).run P w= .ok sz w:=by
 obtain ⟨i,hi,rfl⟩:=aeC hs
 simp [sizeOf,typeInfo,hi]
theorem jR {ty:TypeId} {ag:Bool} (hs:aggP P ty=some ag) (w:World):(isAgg ty).run P w= .ok ag w:=by
 unfold aggP at hs
 unfold isAgg
 cases hu:P.underlying ty with
 |none=>rw [hu] at hs;cases hs
 |some d=>
  rw [hu] at hs
  rw [Sem.run_bind,run_underlying hu]
  cases d<;>simp_all
theorem add_plain (g o n:Nat):(⟨g,o,none⟩:Addr).add n=⟨g,o+n,none⟩:=by
 unfold Addr.add
 split<;>simp_all
theorem MC {ty:TypeId} {ag:Bool} {sz g o:Nat} (ha:aggP P ty=some ag) (hs:sizeP P ty=some sz) {cs:List AV} {vs:Array Value} {ok:Nat->Prop}
  (hl:cs.length=vs.size) (hc:∀ j v,vs[j]? =some v->w.cell? ⟨g,o+j,none⟩=some v) (hv:∀ (j:Nat) (c:AV) (v:Value),cs[j]? =some c->vs[j]? =some v->VR w ok ρ U c v):
  (ag=true->sz=cs.length->∃ v,(loadVar ty ⟨g,o,none⟩).run P w= .ok v w/\VR w ok ρ U (.agg cs) v)/\
  (ag=false->∀ c,cs[0]? =some c->∃ v,(loadVar ty ⟨g,o,none⟩).run P w= .ok v w/\VR w ok ρ U c v):=by
 refine ⟨fun h1 h2=> ?_,fun h1 c h0=> ?_⟩
 ·subst h1
  refine ⟨.agg vs,?_,.agg hl hv⟩
  have hL:=run_loadCells_list (P:=P) w ⟨g,o,none⟩ vs.toList (fun j v hj=>by
   rw [add_plain];exact hc j v (by simpa using hj))
  rw [h2,hl] at hs
  simp only [Array.length_toList,Array.toArray_toList] at hL
  simp only [loadVar,Sem.run_bind,jR ha,cu hs,Result.andThen_ok,if_true,hL,Sem.run_pure]
 ·subst h1
  have hlt:0<vs.size:=by rw [<-hl];exact (List.getElem?_eq_some_iff.1 h0).1
  have hg:vs[0]? =some vs[0]:=Array.getElem?_eq_getElem hlt
  have:=hc 0 _ hg
  simp only [Nat.add_zero] at this
  exact ⟨vs[0],by simp [loadVar,jR ha,this],hv 0 c _ h0 hg⟩
theorem lC {g j:Nat} {cells:Array Value} {ty:TypeId} {fz:Nat×Nat} (hg:w.heap[g]? =some (.cells cells ty fz)):w.cell? ⟨g,j,none⟩=cells[j]? :=cell_of_row w g j cells ty fz hg
theorem ranged {α:Type} (f:Nat->α) (m i:Nat) (v:α):(((List.range m).map f).toArray)[i]? =some v↔∃ _:i<m,f i=v:=by
 by_cases hi:i<m
 ·simp [List.getElem?_range hi,hi]
 ·simp [hi]
theorem aeD (hr:HR C ρ U h w) (ht:Tm C ρ U w t a) {ty:TypeId} {ag:Bool} {sz:Nat} {x:Operand} (ha:aggP P ty=some ag) (hs:sizeP P ty=some sz)
  (ho:o.op= .load ty x) (he:av nm t h (.load ag sz x)=some e) (hp:e.pre):Run C ρ U h w nm ((execOp a.eval o).run P w) e:=by
 have key:∀ (g off:Nat) (cs:List AV) (vs:Array Value),a.eval x= .pointer (some ⟨g,off,none⟩)->cs.length=vs.size->
   (∀ j v,vs[j]? =some v->w.cell? ⟨g,off+j,none⟩=some v)->(∀ (j:Nat) (c:AV) (v:Value),cs[j]? =some c->vs[j]? =some v->VR w (ay C ρ w) ρ U c v)->
   (ag=true->sz=cs.length->∀ p,Run C ρ U h w nm ((execOp a.eval o).run P w) ⟨p,.agg cs,[]⟩)/\(ag=false->∀ c,cs[0]? =some c->∀ p,Run C ρ U h w nm ((execOp a.eval o).run P w) ⟨p,c,[]⟩):=by
  intro g off cs vs hx hl hc hv
  have hR:=MC (P:=P) ha hs hl hc hv
  refine ⟨fun h1 h2 p=> ?_,fun h1 c h0 p=> ?_⟩
  ·obtain ⟨v,hrun,gL⟩:=hR.1 h1 h2
   simp only [execOp,ho,hx,Instr.loadAt,Instr.sureAddr,Sem.run_bind,Sem.run_pure,Result.andThen_ok,hrun]
   exact .same hr gL p
  ·obtain ⟨v,hrun,gL⟩:=hR.2 h1 c h0
   simp only [execOp,ho,hx,Instr.loadAt,Instr.sureAddr,Sem.run_bind,Sem.run_pure,Result.andThen_ok,hrun]
   exact .same hr gL p
 simp only [av] at he
 split at he
 ·
  rename_i b j hx
  obtain ⟨hu,ad,hax,had⟩:=(aL ht hx).qi
  split at he
  ·rename_i cs hb
   obtain ⟨g,off,n,ety,cells,h1,h2,h3,h4,h5⟩:=(hr.hp b _ hb).2
   have G5:=had g off n h1
   subst G5
   have uD:∀ (k m:Nat),k+m<=cs.length->∀ (i:Nat) (v:Value),(cells.extract (off+k) (off+k+m))[i]? =some v->w.cell? ⟨g,off+k+i,none⟩=some v:=by
    intro k m hkm i v hi
    rw [lC h2]
    rw [Array.getElem?_extract] at hi
    split at hi
    ·exact hi
    ·cases hi
   have uE:∀ (k m:Nat),k+m<=cs.length->∀ (i:Nat) (c:AV) (v:Value),((cs.drop k).take m)[i]? =some c->(cells.extract (off+k) (off+k+m))[i]? =some v->VR w (ay C ρ w) ρ U c v:=by
    intro k m hkm i c v hc hi
    rw [Array.getElem?_extract] at hi
    rw [List.getElem?_take] at hc
    split at hi
    ·split at hc
     ·rw [List.getElem?_drop] at hc
      obtain ⟨u,hu1,hu2⟩:=h5 (k+i) c hc
      rw [show off+(k+i)=off+k+i from by omega] at hu1
      rw [hi] at hu1
      cases hu1
      exact hu2
     ·cases hc
    ·cases hi
   have ME:∀ (k m:Nat),k+m<=cs.length->((cs.drop k).take m).length=(cells.extract (off+k) (off+k+m)).size:=by
    intro k m hkm
    simp
    omega
   split at he
   ·rename_i hag
    split at he
    ·rename_i hjs
     simp only [E.ok,Option.some.injEq] at he;subst he
     exact (key g (off+j) _ _ hax (ME j sz hjs) (uD j sz hjs) (uE j sz hjs)).1 hag (by simp;omega) _
    ·cases he
   ·rename_i hag
    split at he
    ·rename_i c hc
     simp only [E.ok,Option.some.injEq] at he;subst he
     have hlt:j<cs.length:=(List.getElem?_eq_some_iff.1 hc).1
     exact (key g (off+j) _ _ hax (ME j 1 (by omega)) (uD j 1 (by omega)) (uE j 1 (by omega))).2 (by simpa using hag) c (by simp [List.getElem?_take,hc]) _
    ·cases he
  ·cases he
 ·
  rename_i cs j hx
  have hvp:=(aL ht hx).GN
  cases hq:a.eval x with
  |pointer ad=>
   rw [hq] at hvp
   cases hvp with
   |bW g off f hok hc hv=>
    have uD:∀ (k m:Nat),k+m<=cs.length->∀ (i:Nat) (v:Value),(((List.range m).map fun i=>f (k+i)).toArray)[i]? =some v->w.cell? ⟨g,off+k+i,none⟩=some v:=by
     intro k m hkm i v hi
     rw [ranged] at hi
     obtain ⟨hi1,rfl⟩:=hi
     have:=hc (k+i) _ (List.getElem?_eq_getElem (by omega))
     rw [show off+k+i=off+(k+i) from by omega]
     exact this
    have uE:∀ (k m:Nat),k+m<=cs.length->∀ (i:Nat) (c:AV) (v:Value),((cs.drop k).take m)[i]? =some c->(((List.range m).map fun i=>f (k+i)).toArray)[i]? =some v->VR w (ay C ρ w) ρ U c v:=by
     intro k m hkm i c v hcc hi
     rw [ranged] at hi
     obtain ⟨hi1,rfl⟩:=hi
     rw [List.getElem?_take,if_pos hi1,List.getElem?_drop] at hcc
     exact .p (hv _ _ hcc)
    split at he
    ·rename_i hag
     split at he
     ·rename_i hjs
      simp only [E.ok,Option.some.injEq] at he;subst he
      exact (key g (off+j) _ _ hq (by simp;omega) (uD j sz hjs) (uE j sz hjs)).1 hag (by simp;omega) _
     ·cases he
    ·rename_i hag
     split at he
     ·rename_i c hcc
      simp only [E.ok,Option.some.injEq] at he;subst he
      have hlt:j<cs.length:=(List.getElem?_eq_some_iff.1 hcc).1
      exact (key g (off+j) ((cs.drop j).take 1) _ hq (by simp;omega) (uD j 1 (by omega)) (uE j 1 (by omega))).2 (by simpa using hag) c (by simp [List.getElem?_take,hcc]) _
     ·cases he
  |_=>rw [hq] at hvp;cases hvp
 ·
  rename_i b sz' k j hx
  obtain ⟨hu,ad,hax,had⟩:=(aL ht hx).GQ
  split at he
  ·rename_i ety eB xs hb
   split at he
   ·rename_i hsz
    subst hsz
    have h0:=(hr.hp b _ hb).2
    have hk:k<xs.length:=by
     split at he<;>(simp only [Option.some.injEq] at he;subst he;exact hp.1)
    rcases h0 with ⟨_,h0⟩|⟨g,off,n,cells,h1,h2,h3,h4,h5,h6⟩
    ·subst h0;simp at hk
    ·have G5:=had g off n h1
     subst G5
     have hxk:xs[k]? =some (nth xs k):=by
      rw [List.getElem?_eq_getElem hk]
      simp [nth,List.getElem?_eq_getElem hk]
     have hlen:=h5 k _ hxk
     have hroom:off+k*sz'+sz'<=cells.size:=by
      have:(k+1)*sz'<=xs.length*sz':=Nat.mul_le_mul_right _ hk
      rw [Nat.add_mul,Nat.one_mul] at this
      omega
     have uD:∀ (q m:Nat),q+m<=sz'->∀ (i:Nat) (v:Value),(cells.extract (off+(k*sz'+q)) (off+(k*sz'+q)+m))[i]? =some v->w.cell? ⟨g,off+(k*sz'+q)+i,none⟩=some v:=by
      intro q m hkm i v hi
      rw [lC h2]
      rw [Array.getElem?_extract] at hi
      split at hi
      ·exact hi
      ·cases hi
     have uE:∀ (q m:Nat),q+m<=sz'->∀ (i:Nat) (c:AV) (v:Value),(((nth xs k).drop q).take m)[i]? =some c->(cells.extract (off+(k*sz'+q)) (off+(k*sz'+q)+m))[i]? =some v->VR w (ay C ρ w) ρ U c v:=by
      intro q m hkm i c v hc hi
      rw [Array.getElem?_extract] at hi
      rw [List.getElem?_take] at hc
      split at hi
      ·split at hc
       ·rw [List.getElem?_drop] at hc
        obtain ⟨u,hu1,_,hu2⟩:=h6 k _ (q+i) c hxk hc
        rw [show off+(k*sz'+(q+i))=off+(k*sz'+q)+i from by omega] at hu1
        rw [hi] at hu1
        cases hu1
        exact .p hu2
       ·cases hc
      ·cases hi
     split at he
     ·rename_i hag
      simp only [Option.some.injEq] at he;subst he
      have hj:=hp.2
      exact (key g _ _ _ hax (by simp [hlen];omega) (uD j sz hj) (uE j sz hj)).1 hag (by simp [hlen];omega) _
     ·rename_i hag
      simp only [Option.some.injEq] at he;subst he
      have hj:=hp.2
      have hc:(nth xs k)[j]? =some (((nth xs k)[j]?).getD (.v undef)):=by
       rw [List.getElem?_eq_getElem (by omega)];rfl
      exact (key g _ (((nth xs k).drop j).take 1) _ hax (by simp [hlen];omega) (uD j 1 (by omega)) (uE j 1 (by omega))).2 (by simpa using hag) _
       (by rw [List.getElem?_take];simp;exact hc) _
   ·cases he
  ·cases he
 ·cases he
end
end Go.Eng
namespace Go.Eng
open Go
section
variable {P:Program} {C:Ctx} {ρ:Nat->Loc} {U:Nat->Prop} {h:List (Nat×Ob)} {w:World} {nm:Nat} {t:List (Nat×AV)} {a:Act} {o:Oper} {e:E}
theorem DK (hr:HR C ρ U h w) {b:Nat} {cs:List AV} (hb:get h b=some (.box cs)):∃ g off n ety cells,ρ b= .at g off n/\w.heap[g]? =some (.cells cells ety (0,0))/\off+n<=cells.size/\n=cs.length/\
 ∀ j c,cs[j]? =some c->∃ u,cells[off+j]? =some u/\VR w (ay C ρ w) ρ U c u:=(hr.hp b _ hb).2
theorem yI (hr:HR C ρ U h w) {b ety sz:Nat} {xs:List (List AV)} (hb:get h b=some (.row ety sz xs)) (hx:0<xs.length):
  ∃ g off n cells,ρ b= .at g off n/\w.heap[g]? =some (.cells cells ety (0,0))/\off+n<=cells.size/\xs.length*sz<=n/\
   (∀ (k:Nat) (x:List AV),xs[k]? =some x->x.length=sz)/\
   ∀ (k:Nat) (x:List AV) (j:Nat) (c:AV),xs[k]? =some x->x[j]? =some c->∃ u,cells[off+(k*sz+j)]? =some u/\u.oneCell'=true/\VP w (ay C ρ w) c u:=by
 rcases (hr.hp b _ hb).2 with ⟨_,h0⟩|h0
 ·subst h0;simp at hx
 ·exact h0
theorem aeE (hr:HR C ρ U h w) (ht:Tm C ρ U w t a) {ty:TypeId} {fs:Array Field} {fi sz:Nat} {fd:Field} {x:Operand} (h1:P.underlying ty=some (.struct fs))
  (h2:fs[fi]? =some fd) (h3:sizeP P fd.type=some sz) (h4:sz≠0) (ho:o.op= .fieldAddr ty x fi) (he:av nm t h (.jP fd.offset x)=some e) (hp:e.pre):
  Run C ρ U h w nm ((execOp a.eval o).run P w) e:=by
 have run:∀ g off,a.eval x= .pointer (some ⟨g,off,none⟩)->(execOp a.eval o).run P w= .ok (.value (.pointer (some ⟨g,off+fd.offset,none⟩))) w:=by
  intro g off hx
  simp only [execOp,ho,hx,Instr.fieldAt,Sem.run_bind,run_underlying h1,h2,Instr.sureAddr,Sem.run_pure,Result.andThen_ok,fieldPlace,cu h3,h4,if_false,add_plain]
 simp only [av] at he
 split at he
 ·rename_i b j hx
  obtain ⟨hu,ad,hax,had⟩:=(aL ht hx).qi
  split at he
  ·rename_i cs hb
   simp only [E.ok,Option.some.injEq] at he;subst he
   obtain ⟨g,off,n,_,_,hl,_⟩:=DK hr hb
   have:=had g off n hl
   subst this
   rw [run g (off+j) hax]
   refine .same hr (.ptr _ hu fun g' off' n' hl'=> ?_) True
   rw [hl] at hl';cases hl'
   rw [Nat.add_assoc]
  ·cases he
 ·rename_i b s k j hx
  obtain ⟨hu,ad,hax,had⟩:=(aL ht hx).GQ
  split at he
  ·rename_i ety s' xs hb
   simp only [Option.some.injEq] at he;subst he
   obtain ⟨g,off,n,_,hl,_⟩:=yI hr hb (Nat.lt_of_le_of_lt (Nat.zero_le _) hp)
   have:=had g off n hl
   subst this
   rw [run g _ hax]
   refine .same hr (.rp _ hu fun g' off' n' hl'=> ?_) _
   rw [hl] at hl';cases hl'
   congr 2;omega
  ·cases he
 ·rename_i cs j hx
  have hvp:=(aL ht hx).GN
  cases hq:a.eval x with
  |pointer ad=>
   rw [hq] at hvp
   simp only [E.ok,Option.some.injEq] at he;subst he
   cases hvp with
   |bW g off f hok hc hv=>
    rw [run g (off+j) hq]
    rw [Nat.add_assoc]
    exact .same hr (.p (.bW g off f hok hc hv)) True
  |_=>rw [hq] at hvp;cases hvp
 ·cases he
theorem aeF (hr:HR C ρ U h w) (ht:Tm C ρ U w t a) {ty:TypeId} {fs:Array Field} {fi sz:Nat} {ag:Bool} {fd:Field} {x:Operand} (h1:P.underlying ty=some (.struct fs))
  (h2:fs[fi]? =some fd) (h3:sizeP P fd.type=some sz) (h4:aggP P fd.type=some ag) (ho:o.op= .field ty x fi) (he:av nm t h (.nL ag fd.offset sz x)=some e):
  Run C ρ U h w nm ((execOp a.eval o).run P w) e:=by
 simp only [av] at he
 split at he
 ·rename_i cs hx
  obtain ⟨vs,hu,hv⟩:=(aL ht hx).yA
  split at he
  ·rename_i hag
   split at he
   ·rename_i hlen
    simp only [E.ok,Option.some.injEq] at he;subst he
    simp only [execOp,ho,hu,Instr.field,asAgg,part,Sem.run_bind,run_underlying h1,h2,jR h4,hag,cu h3,Sem.run_pure,Result.andThen_ok,if_true]
    refine .same hr (.agg ?_ fun i c u hc hi=> ?_) True
    ·have:=hv.1;simp;omega
    ·rw [Array.getElem?_extract] at hi
     rw [List.getElem?_take] at hc
     split at hi
     ·split at hc
      ·rw [List.getElem?_drop] at hc
       exact hv.2 _ _ _ hc hi
      ·cases hc
     ·cases hi
   ·cases he
  ·rename_i hag
   split at he
   ·rename_i c hc
    simp only [E.ok,Option.some.injEq] at he;subst he
    have hlt:fd.offset<vs.size:=by rw [<-hv.1];exact (List.getElem?_eq_some_iff.1 hc).1
    have hg:vs[fd.offset]? =some vs[fd.offset]:=Array.getElem?_eq_getElem hlt
    have hag':ag=false:=by simpa using hag
    simp only [execOp,ho,hu,Instr.field,asAgg,part,Sem.run_bind,run_underlying h1,h2,jR h4,hag',hg,Sem.run_pure,Result.andThen_ok,Bool.false_eq_true,if_false]
    exact .same hr (hv.2 _ _ _ hc hg) True
   ·cases he
 ·cases he
theorem aeG (hr:HR C ρ U h w) (ht:Tm C ρ U w t a) {x:Operand} (ho:o.op= .nilCheck x) (he:av nm t h (.jM x)=some e):
  Run C ρ U h w nm ((execOp a.eval o).run P w) e:=by
 simp only [av] at he
 split at he
 ·rename_i b j hx
  have gL:=aL ht hx
  obtain ⟨hu,ad,hax,had⟩:=gL.qi
  split at he
  ·rename_i cs hb
   simp only [E.ok,Option.some.injEq] at he;subst he
   obtain ⟨g,off,n,_,_,hl,_⟩:=DK hr hb
   have:=had g off n hl
   subst this
   rw [hax] at gL
   simp only [execOp,ho,hax,Sem.run_pure]
   exact .same hr gL True
  ·cases he
 ·rename_i cs j hx
  have gL:=aL ht hx
  have hvp:=gL.GN
  simp only [E.ok,Option.some.injEq] at he;subst he
  cases hq:a.eval x with
  |pointer ad=>
   rw [hq] at hvp gL
   cases hvp with
   |bW g off f hok hc hv=>
    simp only [execOp,ho,hq,Sem.run_pure]
    exact .same hr gL True
  |_=>rw [hq] at hvp;cases hvp
 ·rename_i f cs hx
  have gL:=aL ht hx
  split at he
  ·rename_i hlt
   obtain ⟨vs,hu,hv⟩:=gL.GL hlt
   simp only [E.ok,Option.some.injEq] at he;subst he
   rw [hu] at gL
   have hq:∃ g a b,nI f vs= .func (.func g) a b:=by
    unfold nI
    split
    ·exact ⟨_,_,_,rfl⟩
    ·exact ⟨_,_,_,rfl⟩
   obtain ⟨g,a1,b1,hq⟩:=hq
   rw [hq] at hu gL
   simp only [execOp,ho,hu,Sem.run_pure]
   exact .same hr gL True
  ·cases he
 ·cases he
theorem aeH (hr:HR C ρ U h w) (ht:Tm C ρ U w t a) {ty el:TypeId} {len sz:Nat} {x i:Operand} (h1:P.underlying ty=some (.array len el))
  (h3:sizeP P el=some sz) (ho:o.op= .indexAddr ty x i) (he:av nm t h (.lZ len sz x i)=some e) (hp:e.pre):
  Run C ρ U h w nm ((execOp a.eval o).run P w) e:=by
 have run:∀ (g off:Nat) (k:IntKind) (n:Int),a.eval x= .pointer (some ⟨g,off,none⟩)->a.eval i= .int k n->0<=n->n<len->
   (execOp a.eval o).run P w= .ok (.value (.pointer (some ⟨g,off+n.toNat*sz,none⟩))) w:=by
  intro g off k n hx hi h0 hlt
  simp only [execOp,ho,hx,hi,Instr.indexAt,Instr.sureAddr,asIntOf,Sem.run_bind,run_underlying h1,Sem.run_pure,Result.andThen_ok,cu h3,add_plain,h0,hlt,and_self,Sem.run_ite,if_true]
 simp only [av] at he
 split at he
 ·rename_i b j k n hx hi
  obtain ⟨hu,ad,hax,had⟩:=(aL ht hx).qi
  have hin:=(aL ht hi).bA
  split at he
  ·rename_i cs hb
   simp only [Option.some.injEq] at he;subst he
   obtain ⟨h0,hlt⟩:=hp
   obtain ⟨g,off,n',_,_,hl,_⟩:=DK hr hb
   have:=had g off n' hl
   subst this
   rw [run g (off+j) k n hax hin h0 hlt]
   refine .same hr (.ptr _ hu fun g' off' n' hl'=> ?_) _
   rw [hl] at hl';cases hl'
   rw [Nat.add_assoc]
  ·cases he
 ·cases he
theorem aeI (hr:HR C ρ U h w) (ht:Tm C ρ U w t a) {ty el:TypeId} {sz:Nat} {x i:Operand} (h1:P.underlying ty=some (.slice el))
  (h3:sizeP P el=some sz) (ho:o.op= .indexAddr ty x i) (he:av nm t h (.lY sz x i)=some e) (hp:e.pre):
  Run C ρ U h w nm ((execOp a.eval o).run P w) e:=by
 have run:∀ (g off len cap:Nat) (k:IntKind) (n:Int),a.eval x= .slice (some ⟨g,off,none⟩) len cap->a.eval i= .int k n->0<=n->n<len->
   (execOp a.eval o).run P w= .ok (.value (.pointer (some ⟨g,off+n.toNat*sz,none⟩))) w:=by
  intro g off len cap k n hx hi h0 hlt
  simp only [execOp,ho,hx,hi,Instr.indexAt,asIntOf,Sem.run_bind,run_underlying h1,Sem.run_pure,Result.andThen_ok,cu h3,add_plain,h0,hlt,and_self,Sem.run_ite,if_true]
 simp only [av] at he
 split at he
 ·rename_i sz' xs k n hx hi
  have hvp:=(aL ht hx).rY
  have hin:=(aL ht hi).bA
  split at he
  ·rename_i hs
   subst hs
   simp only [Option.some.injEq] at he;subst he
   obtain ⟨h0,hlt⟩:=hp
   cases hq:a.eval x with
   |slice ad len cap=>
    rw [hq] at hvp
    cases hvp with
    |fO=>simp at hlt;omega
    |sl ad len cap f hn hcap hok hl hc hv=>
     subst hn
     have hpos:0<xs.length:=by omega
     obtain ⟨hsp,hok'⟩:=hok hpos
     obtain ⟨g,off,sp⟩:=ad
     simp only at hsp hc hok'
     subst hsp
     rw [run g off xs.length cap k n hq hin h0 hlt]
     have hlt':n.toNat<xs.length:=by omega
     have hxk:xs[n.toNat]? =some (nth xs n.toNat):=by
      rw [List.getElem?_eq_getElem hlt'];simp [nth,List.getElem?_eq_getElem hlt']
     have e0:VP w (ay C ρ w) (.bW (nth xs n.toNat) 0) (.pointer (some ⟨g,off+n.toNat*sz+0,none⟩)):=
      .bW g (off+n.toNat*sz) (f n.toNat) hok' (fun j c hj=>by
       have:=(hc _ _ _ _ hxk hj).1
       rw [show off+n.toNat*sz+j=off+(n.toNat*sz+j) from by omega]
       exact this) (fun j c hj=>hv _ _ _ _ hxk hj)
     exact .same hr (.p e0) _
   |_=>rw [hq] at hvp;cases hvp
  ·cases he
 ·rename_i b sz' off len k n hx hi
  have hin:=(aL ht hi).bA
  obtain ⟨hu,⟨ad,len',cap',hsl⟩,hown⟩:=(aL ht hx).oL
  split at he
  ·rename_i ety eB xs hb
   split at he
   ·rename_i hs
    obtain ⟨hs1,hs2⟩:=hs
    subst hs1;subst hs2
    simp only [Option.some.injEq] at he;subst he
    obtain ⟨h0,hlt⟩:=hp
    have hnil:ρ b≠.nil:=by
     intro e;rw [e] at hown;simp only at hown;omega
    have hnd:ρ b≠.dead:=by
     intro e
     rcases (hr.hp b _ hb).2 with ⟨e',_⟩|⟨_,_,_,_,e',_⟩<;>rw [e] at e'<;>cases e'
    cases hl:ρ b with
    |dead=>exact absurd hl hnd
    |nil=>exact absurd hl hnil
    |«at» g o n'=>
     rw [hl] at hown
     simp only at hown
     rcases hown with ⟨hz,_⟩|⟨cap,hlc,hroom,hval⟩
     ·omega
     ·rw [run g (o+off*sz) len cap k n hval hin h0 hlt]
      refine .same hr (.rp _ hu fun g' off' n'' hl'=> ?_) _
      rw [hl] at hl';cases hl'
      congr 2
      rw [Nat.add_mul];omega
   ·cases he
  ·cases he
 ·cases he
theorem sG {ty:TypeId} {x:Operand} {c:Call} {d:TypeDesc} {v:Value} {n:Nat} (h1:P.underlying ty=some d) (hd:(∃ el,d= .slice el/\∃ ad cap,v= .slice ad n cap)\/(d= .string/\∃ s,v= .string s/\n=s.size))
  (hc:c.callee= .builtin .len) (h2:c.argTypes[0]? =some ty) (h3:c.args[0]? =some x) (ho:o.op= .call c) (hx:a.eval x=v):
  (execOp a.eval o).run P w= .ok (.value (.int .i64 n)) w:=by
 have h4:(c.args.map a.eval)[0]? =some (a.eval x):=by simp [h3]
 have dD:∀ v,(Builtin.len_ c.argTypes o.type (c.args.map a.eval)).run P w= .ok v w->(execOp a.eval o).run P w= .ok (.value v) w:=by
  intro v hv
  simp only [execOp,ho,resolve,hc,invoke,builtin,Sem.run_bind,Sem.run_pure,Result.andThen_ok,hv]
 rcases hd with ⟨el,rfl,ad,cap,rfl⟩|⟨rfl,s,rfl,rfl⟩
 ·refine dD _ ?_
  simp [Builtin.len_,h2,h3,hx,run_underlying h1,goInt]
 ·refine dD _ ?_
  simp [Builtin.len_,h2,h3,hx,run_underlying h1,goInt]
theorem aeJ (hr:HR C ρ U h w) (ht:Tm C ρ U w t a) {ty:TypeId} {x:Operand} {c:Call} (h1:P.underlying ty=some .string)
  (hc:c.callee= .builtin .len) (h2:c.argTypes[0]? =some ty) (h3:c.args[0]? =some x) (ho:o.op= .call c) (he:av nm t h (.nM x)=some e):
  Run C ρ U h w nm ((execOp a.eval o).run P w) e:=by
 simp only [av] at he
 split at he
 ·rename_i s hx
  have hv:=(aL ht hx).bA
  simp only [E.ok,Option.some.injEq] at he;subst he
  rw [sG h1 (.inr ⟨rfl,s,rfl,rfl⟩) hc h2 h3 ho hv]
  exact .same hr (.p (.v _)) True
 ·cases he
theorem aeK (hr:HR C ρ U h w) (ht:Tm C ρ U w t a) {ty el:TypeId} {x:Operand} {c:Call} (h1:P.underlying ty=some (.slice el))
  (hc:c.callee= .builtin .len) (h2:c.argTypes[0]? =some ty) (h3:c.args[0]? =some x) (ho:o.op= .call c) (he:av nm t h (.len x)=some e):
  Run C ρ U h w nm ((execOp a.eval o).run P w) e:=by
 simp only [av] at he
 split at he
 ·rename_i ad n cap hx
  have hv:=(aL ht hx).bA
  simp only [E.ok,Option.some.injEq] at he;subst he
  rw [sG h1 (.inl ⟨el,rfl,ad,cap,rfl⟩) hc h2 h3 ho hv]
  exact .same hr (.p (.v _)) True
 ·rename_i sz xs hx
  have hvp:=(aL ht hx).rY
  simp only [E.ok,Option.some.injEq] at he;subst he
  have:∃ ad cap,a.eval x= .slice ad xs.length cap:=by
   generalize a.eval x=u at hvp
   cases hvp with
   |fO=>exact ⟨none,0,rfl⟩
   |sl ad n cap f hn=>subst hn;exact ⟨_,_,rfl⟩
  obtain ⟨ad,cap,hv⟩:=this
  rw [sG h1 (.inl ⟨el,rfl,ad,cap,rfl⟩) hc h2 h3 ho hv]
  exact .same hr (.p (.v _)) True
 ·rename_i b sz off n hx
  obtain ⟨hu,⟨ad,len',cap',hsl⟩,hown⟩:=(aL ht hx).oL
  split at he
  ·rename_i ety eB xs hb
   simp only [E.ok,Option.some.injEq] at he;subst he
   have:∃ ad cap,a.eval x= .slice ad n cap:=by
    cases hl:ρ b with
    |dead=>rcases (hr.hp b _ hb).2 with ⟨e',_⟩|⟨_,_,_,_,e',_⟩<;>rw [hl] at e'<;>cases e'
    |nil=>rw [hl] at hown;simp only at hown;obtain ⟨rfl,hv⟩:=hown;exact ⟨_,_,hv⟩
    |«at» g o n'=>
     rw [hl] at hown
     simp only at hown
     rcases hown with ⟨rfl,_,hv|⟨ad,hv⟩⟩|⟨cap,_,_,hv⟩
     ·exact ⟨_,_,hv⟩
     ·exact ⟨_,_,hv⟩
     ·exact ⟨_,_,hv⟩
   obtain ⟨ad,cap,hv⟩:=this
   rw [sG h1 (.inl ⟨el,rfl,ad,cap,rfl⟩) hc h2 h3 ho hv]
   exact .same hr (.p (.v _)) True
  ·cases he
 ·cases he
theorem aeL {w':World} {ok:Nat->Prop} {ρ':Nat->Loc} {U':Nat->Prop} {cs:List AV} {cells:Array Value} {ety g:Nat} (hv:VL w' ok ρ' U' cs cells)
  (hg:w'.heap[g]? =some (.cells cells ety (0,0))):dV w' ok ρ' U' (.at g 0 cs.length) (.box cs):=
 ⟨g,0,cs.length,ety,cells,rfl,hg,by have:=hv.1;omega,rfl,fun j c hj=>by
  have hlt:j<cells.size:=by rw [<-hv.1];exact (List.getElem?_eq_some_iff.1 hj).1
  refine ⟨cells[j],?_,hv.2 j c _ hj (Array.getElem?_eq_getElem hlt)⟩
  rw [Nat.zero_add];exact Array.getElem?_eq_getElem hlt⟩
theorem G6 (hr:HR C ρ U h w) (hn:¬ U nm) (ob:Obj) {l:Loc} (hl:l= .nil\/∃ o n,l= .at w.heap.size o n):Moved C ρ U h w nm l (w.alloc ob) where
 os:=rfl
 tape:=rfl
 output:=rfl
 size:=by simp
 bl g hg _:=Go.RowKit.Below.heap_alloc w ob g hg
 way:= .inr (.inr ⟨hn,hl.imp id fun ⟨o,n,e⟩=>⟨w.heap.size,o,n,e,Nat.le_refl _,by simp⟩⟩)
theorem MF (hr:HR C ρ U h w) (hn:¬ U nm) {cs:List AV} {cells:Array Value} {ety:Nat} (hv:VL w (ay C ρ w) ρ U cs cells) {r:Result Next}
  (hrun:r= .ok (.value (.pointer (some ⟨w.heap.size,0,none⟩))) (w.alloc (.cells cells ety))) (p:Prop):Run C ρ U h w nm r ⟨p,.ptr nm 0,[(nm,.box cs)]⟩:=by
 have hm:=G6 (C:=C) (ρ:=ρ) (U:=U) (h:=h) hr hn (.cells cells ety) (l:= .at w.heap.size 0 cs.length) (.inr ⟨0,cs.length,rfl⟩)
 refine .moved hr hm (fun _=>⟨cs,rfl⟩) (aeL (ety:=ety) ⟨hv.1,fun i c u h1 h2=>hm.vr (hv.2 i c u h1 h2)⟩ (heap_alloc_new w _)) (.inl hrun) ?_ (.inr rfl) p
 refine .ptr _ (.inr rfl) fun g o n hl=> ?_
 simp only [up,if_true] at hl
 cases hl
 rfl
theorem aeM (hr:HR C ρ U h w) (hn:¬ U nm) {el:TypeId} {zs:List Value} (hz:zerosOf P el=some zs) (ho:o.op= .alloc el) (he:av nm t h (.alloc zs)=some e):
  Run C ρ U h w nm ((execOp a.eval o).run P w) e:=by
 simp only [av,Option.some.injEq] at he;subst he
 unfold zerosOf at hz
 split at hz
 ·rename_i i hi
  split at hz
  ·rename_i z hiz
   simp only [Option.some.injEq] at hz;subst hz
   refine MF hr hn (cells:=z.cells) (ety:=el) ⟨by simp,fun i c u h1 h2=> ?_⟩ ?_ True
   ·simp only [List.getElem?_map] at h1
    rw [<-Array.getElem?_toList] at h2
    rw [h2] at h1
    simp at h1;subst h1
    exact .p (.v _)
   ·simp [execOp,ho,Instr.alloc,zeroValue,typeInfo,hi,hiz,newVar,newRow]
  ·cases hz
 ·cases hz
theorem aeN (hr:HR C ρ U h w) (ht:Tm C ρ U w t a) (hn:¬ U nm) {el:TypeId} {x:Operand} (ho:o.op= .box el x) (he:av nm t h (.box x)=some e):
  Run C ρ U h w nm ((execOp a.eval o).run P w) e:=by
 simp only [av] at he
 split at he
 ·rename_i y hx
  split at he
  ·rename_i ys hy
   simp only [Option.some.injEq] at he;subst he
   obtain ⟨hv,_,_⟩:=yH (aL ht hx) hy
   refine MF hr hn (ety:=el) hv ?_ True
   simp [execOp,ho,Instr.box,newVar,newRow]
  ·cases he
 ·cases he
end
end Go.Eng
namespace Go.Eng
open Go
section
variable {P:Program} {C:Ctx} {ρ:Nat->Loc} {U:Nat->Prop} {h:List (Nat×Ob)} {w:World} {nm:Nat} {t:List (Nat×AV)} {a:Act} {o:Oper} {e:E}
theorem wF {α:Type} (cs ys:List α) (j i:Nat) (hl:j+ys.length<=cs.length):
  (cs.take j++(ys++cs.drop (j+ys.length)))[i]? =if i<j then cs[i]? else if i<j+ys.length then ys[i - j]? else cs[i]? :=by
 rw [List.getElem?_append,List.length_take,Nat.min_eq_left (by omega)]
 by_cases h1:i<j
 ·simp [h1]
 ·rw [if_neg h1,if_neg h1,List.getElem?_append]
  by_cases h2:i<j+ys.length
  ·rw [if_pos (by omega),if_pos h2]
  ·rw [if_neg (by omega),if_neg h2,List.getElem?_drop]
   congr 1;omega
theorem DL (cs ys:List AV) (j:Nat) (hl:j+ys.length<=cs.length):(splice cs j ys).length=cs.length:=by
 simp [splice];omega
theorem oP (w:World) (g k:Nat) (cs:Array Value) (hk:k≠g):(w.setRow g cs).heap[k]? =w.heap[k]? :=by
 simp only [World.setRow,Array.getElem?_modify]
 rw [if_neg (fun e=>hk e.symm)]
def pasted (cells:Array Value) (off:Nat) (vs:Array Value):Array Value:=(cells.toList.take off++(vs.toList++cells.toList.drop (off+vs.toList.length))).toArray
theorem jb (cells:Array Value) (off:Nat) (vs:Array Value) (hf:off+vs.size<=cells.size):(pasted cells off vs).size=cells.size:=by
 simp [pasted];omega
theorem iC (cells:Array Value) (off:Nat) (vs:Array Value) (hf:off+vs.size<=cells.size) (i:Nat):
  (pasted cells off vs)[i]? =if i<off then cells[i]? else if i<off+vs.size then vs[i - off]? else cells[i]? :=by
 unfold pasted
 simp only [List.getElem?_toArray]
 rw [wF _ _ _ _ (by simpa using hf)]
 simp
theorem G7 {ty:TypeId} {sz g off:Nat} {u:Value} {cells:Array Value} {ety:Nat} (hs:sizeP P ty=some sz) (hsz:u.cells.size=sz)
  (h1:∀ (i:Nat) (v:Value),u.cells[i]? =some v->v.oneCell'=true) (hg:w.heap[g]? =some (.cells cells ety (0,0))) (hfit:off+sz<=cells.size):
  (storeVar ty ⟨g,off,none⟩ u).run P w= .ok () (w.setRow g (pasted cells off u.cells)):=by
 have hst:=run_storeCells_at P g off ety u.cells.toList 0 cells w hg (by simp;omega) (fun v hv=>by
  obtain ⟨i,hi,rfl⟩:=List.mem_iff_getElem.1 hv
  exact h1 i _ (by simp at hi;simp [hi]))
 simp only [Nat.add_zero,List.append_assoc] at hst
 simp only [storeVar,Sem.run_bind,cu hs,Result.andThen_ok,hsz,ne_eq,not_true_eq_false,if_false,hst,pasted]
theorem aeO (hr:HR C ρ U h w) (ht:Tm C ρ U w t a) {ty:TypeId} {sz:Nat} {x y:Operand} (hs:sizeP P ty=some sz)
  (ho:o.op= .store ty x y) (he:av nm t h (.store sz x y)=some e) (hp:e.pre):Run C ρ U h w nm ((execOp a.eval o).run P w) e:=by
 have MG:∀ (g off:Nat) (w':World),a.eval x= .pointer (some ⟨g,off,none⟩)->(storeVar ty ⟨g,off,none⟩ (a.eval y)).run P w= .ok () w'->(execOp a.eval o).run P w= .ok .skip w':=by
  intro g off w' hx hrun
  simp only [execOp,ho,hx,Instr.storeAt,Instr.sureAddr,Sem.run_bind,Sem.run_pure,Result.andThen_ok,hrun]
 have moved:∀ (b g off n:Nat) (cells cells':Array Value) (ety:Nat),U b->ρ b= .at g off n->w.heap[g]? =some (.cells cells ety (0,0))->Moved C ρ U h w b (.at g off n) (w.setRow g cells'):=by
  intro b g off n cells cells' ety hu hl hg
  refine ⟨rfl,rfl,rfl,by simp,fun k hk hkb=> ?_,.inl ⟨hu,hl.symm⟩⟩
  by_cases hkg:k=g
  ·subst hkg;exact absurd hl (hkb off n)
  ·exact oP w g k cells' hkg
 simp only [av] at he
 split at he
 ·
  rename_i b j z hx hy
  obtain ⟨hu,ad,hax,had⟩:=(aL ht hx).qi
  have G8:=aL ht hy
  split at he
  ·rename_i cs ys hb hz
   obtain ⟨hvl,hone,_⟩:=yH G8 hz
   split at he
   ·rename_i hc
    obtain ⟨hlen,hfit⟩:=hc
    simp only [Option.some.injEq] at he;subst he
    obtain ⟨g,off,n,ety,cells,hl,hg,hcs,hn,hcell⟩:=DK hr hb
    have:=had g off n hl
    subst this;subst hn
    have G9:(a.eval y).cells.size=sz:=by rw [<-hvl.1];exact hlen
    have hrun:=G7 (P:=P) (w:=w) (off:=off+j) hs G9 hone hg (by omega)
    have hm:=moved b g off cs.length cells (pasted cells (off+j) (a.eval y).cells) ety hu hl hg
    have hrow:=setRow_heap w g cells (pasted cells (off+j) (a.eval y).cells) ety (0,0) hg
    refine .moved hr hm (fun _=>⟨_,rfl⟩) ?_ (.inr ⟨rfl,MG g (off+j) _ hax hrun⟩) (.p (.v _)) (.inl hu) True
    refine ⟨g,off,cs.length,ety,_,rfl,hrow,?_,(DL cs ys j (by omega)).symm,fun i c hi=> ?_⟩
    ·rw [jb _ _ _ (by omega)];omega
    ·rw [splice,wF _ _ _ _ (by omega)] at hi
     have DN:(a.eval y).cells.size=ys.length:=by omega
     rw [iC _ _ _ (by omega),DN]
     by_cases h1:i<j
     ·rw [if_pos h1] at hi
      rw [if_pos (by omega)]
      obtain ⟨u,hu1,hu2⟩:=hcell i c hi
      exact ⟨u,hu1,hm.vr hu2⟩
     ·rw [if_neg h1] at hi
      rw [if_neg (by omega)]
      by_cases h2:i<j+ys.length
      ·rw [if_pos h2] at hi
       rw [if_pos (by omega)]
       have hlt:off+i - (off+j)<(a.eval y).cells.size:=by omega
       refine ⟨_,Array.getElem?_eq_getElem hlt,hm.vr (hvl.2 (i - j) c _ hi ?_)⟩
       rw [show i - j=off+i - (off+j) from by omega]
       exact Array.getElem?_eq_getElem hlt
      ·rw [if_neg h2] at hi
       rw [if_neg (by omega)]
       obtain ⟨u,hu1,hu2⟩:=hcell i c hi
       exact ⟨u,hu1,hm.vr hu2⟩
   ·cases he
  ·cases he
 ·
  rename_i b sz' k j z hx hy
  obtain ⟨hu,ad,hax,had⟩:=(aL ht hx).GQ
  have G8:=aL ht hy
  split at he
  ·rename_i ety eB xs ys hb hz
   obtain ⟨hvl,hone,_⟩:=yH G8 hz
   split at he
   ·rename_i hc
    obtain ⟨hss,hlen,hpure⟩:=hc
    subst hss
    simp only [Option.some.injEq] at he;subst he
    obtain ⟨hk,hfit⟩:=hp
    obtain ⟨g,off,n,cells,hl,hg,hcs,hroom,hrl,hcell⟩:=yI hr hb (Nat.lt_of_le_of_lt (Nat.zero_le _) hk)
    have:=had g off n hl
    subst this
    have hxk:xs[k]? =some (nth xs k):=by
     rw [List.getElem?_eq_getElem hk];simp [nth,List.getElem?_eq_getElem hk]
    have hnl:=hrl k _ hxk
    have hks:k*sz'+sz'<=xs.length*sz':=by
     have:(k+1)*sz'<=xs.length*sz':=Nat.mul_le_mul_right _ hk
     rw [Nat.add_mul,Nat.one_mul] at this
     exact this
    have G9:(a.eval y).cells.size=sz:=by rw [<-hvl.1];exact hlen
    have hrun:=G7 (P:=P) (w:=w) (off:=off+(k*sz'+j)) hs G9 hone hg (by omega)
    have hm:=moved b g off n cells (pasted cells (off+(k*sz'+j)) (a.eval y).cells) ety hu hl hg
    have hrow:=setRow_heap w g cells (pasted cells (off+(k*sz'+j)) (a.eval y).cells) ety (0,0) hg
    have hps:=jb cells (off+(k*sz'+j)) (a.eval y).cells (by omega)
    have DN:(a.eval y).cells.size=ys.length:=by omega
    refine .moved hr hm (fun ⟨cs,hcs'⟩=>by rw [hb] at hcs';cases hcs') ?_ (.inr ⟨rfl,MG g _ _ hax hrun⟩) (.p (.v _)) (.inl hu) _
    refine .inr ⟨g,off,n,_,rfl,hrow,?_,by simpa using hroom,fun q x hq=> ?_,fun q x i c hq hi=> ?_⟩
    ·rw [hps];omega
    ·by_cases hqk:q=k
     ·subst hqk
      simp [List.getElem?_set,hk] at hq
      subst hq
      rw [DL _ _ _ (by omega)];exact hnl
     ·rw [List.getElem?_set_ne (fun e=>hqk e.symm)] at hq
      exact hrl q x hq
    ·have old:∀ x',xs[q]? =some x'->x'[i]? =some c->(q≠k\/i<j\/j+ys.length<=i)->i<sz'->
       ∃ u,(pasted cells (off+(k*sz'+j)) (a.eval y).cells)[off+(q*sz'+i)]? =some u/\u.oneCell'=true/\VP (w.setRow g (pasted cells (off+(k*sz'+j)) (a.eval y).cells)) (ay C (up ρ b (.at g off n)) (w.setRow g (pasted cells (off+(k*sz'+j)) (a.eval y).cells))) c u:=by
      intro x' hq' hi' hor hisz
      obtain ⟨u,hu1,h1c,hu2⟩:=hcell q x' i c hq' hi'
      refine ⟨u,?_,h1c,hm.vp hu2⟩
      rw [iC _ _ _ (by omega),DN]
      have hne:¬ (k*sz'+j<=q*sz'+i/\q*sz'+i<k*sz'+j+ys.length):=by
       rcases hor with hqk|hij|hij
       ·intro ⟨c1,c2⟩
        rcases Nat.lt_or_gt_of_ne hqk with hlt|hgt
        ·have:(q+1)*sz'<=k*sz':=Nat.mul_le_mul_right _ hlt
         rw [Nat.add_mul,Nat.one_mul] at this
         omega
        ·have:(k+1)*sz'<=q*sz':=Nat.mul_le_mul_right _ hgt
         rw [Nat.add_mul,Nat.one_mul] at this
         omega
       ·by_cases hqk:q=k
        ·subst hqk;omega
        ·intro ⟨c1,c2⟩
         rcases Nat.lt_or_gt_of_ne hqk with hlt|hgt
         ·have:(q+1)*sz'<=k*sz':=Nat.mul_le_mul_right _ hlt
          rw [Nat.add_mul,Nat.one_mul] at this
          omega
         ·have:(k+1)*sz'<=q*sz':=Nat.mul_le_mul_right _ hgt
          rw [Nat.add_mul,Nat.one_mul] at this
          omega
       ·by_cases hqk:q=k
        ·subst hqk;omega
        ·intro ⟨c1,c2⟩
         rcases Nat.lt_or_gt_of_ne hqk with hlt|hgt
         ·have:(q+1)*sz'<=k*sz':=Nat.mul_le_mul_right _ hlt
          rw [Nat.add_mul,Nat.one_mul] at this
          omega
         ·have:(k+1)*sz'<=q*sz':=Nat.mul_le_mul_right _ hgt
          rw [Nat.add_mul,Nat.one_mul] at this
          omega
      by_cases h1:off+(q*sz'+i)<off+(k*sz'+j)
      ·rw [if_pos h1];exact hu1
      ·rw [if_neg h1,if_neg (by omega)];exact hu1
     by_cases hqk:q=k
     ·subst hqk
      simp [List.getElem?_set,hk] at hq
      subst hq
      have hisz:i<sz':=by
       have:=(List.getElem?_eq_some_iff.1 hi).1
       rw [DL _ _ _ (by omega)] at this
       omega
      rw [splice,wF _ _ _ _ (by omega)] at hi
      by_cases h1:i<j
      ·rw [if_pos h1] at hi
       exact old _ hxk hi (.inr (.inl h1)) hisz
      ·rw [if_neg h1] at hi
       by_cases h2:i<j+ys.length
       ·rw [if_pos h2] at hi
        have hlt:i - j<(a.eval y).cells.size:=by omega
        have hv:=hvl.2 (i - j) c _ hi (Array.getElem?_eq_getElem hlt)
        refine ⟨_,?_,hone (i - j) _ (Array.getElem?_eq_getElem hlt),hm.vp (VP.yG hv (DI _ hpure _ _ hi))⟩
        rw [iC _ _ _ (by omega),DN,if_neg (by omega),if_pos (by omega)]
        rw [show off+(q*sz'+i) - (off+(q*sz'+j))=i - j from by omega]
        exact Array.getElem?_eq_getElem hlt
       ·rw [if_neg h2] at hi
        exact old _ hxk hi (.inr (.inr (by omega))) hisz
     ·rw [List.getElem?_set_ne (fun e=>hqk e.symm)] at hq
      have:=hrl q x hq
      exact old _ hq hi (.inl hqk) (by rw [<-this];exact (List.getElem?_eq_some_iff.1 hi).1)
   ·cases he
  ·cases he
 ·cases he
end
end Go.Eng
