/-
  Part of a proof: lemmas and definitions of this work.
  No condition.
-/
import Derived.Test.YthhjbngoibmpgaaGreatH02
import Derived.Test.YthhjbngoibmpgaaGreatH00
import Derived.Below
import Derived.DataReads
set_option linter.all false
set_option maxRecDepth 100000
set_option maxHeartbeats 8000000
namespace Go.Eng
open Go
def bS:Nat->List Ob->List (Nat×Ob)
 |_,[]=>[]
 |k,o::l=>(k,o)::bS (k+1) l
def dM (k:Nat) (bs:List (List AV)):List (Nat×Ob):=bS k (bs.map .box)
def eH:List Nat->List (List AV)->List (Nat×Ob)
 |b::B,cs::bs=>(b,.box cs)::eH B bs
 |_,_=>[]
def outs (bs:List (List AV)) (es:List Ob):List (Nat×Ob):=dM 0 bs++bS 4 es
mutual
def sh (nm:Nat):AV->AV
 | .own k sz off len=> .own (nm+(k - 4)) sz off len
 | .ptr k j=> .ptr (nm+(k - 4)) j
 | .agg cs=> .agg (jV nm cs)
 | .aN cs=> .aN (jV nm cs)
 | .fn f cs=> .fn f (jV nm cs)
 |x=>x
def jV (nm:Nat):List AV->List AV
 |[]=>[]
 |c::cs=>sh nm c::jV nm cs
end
mutual
def bZ (m:Nat):AV->Bool
 | .v _=>true
 | .sl _ _=>true
 | .bB _ _=>true
 | .own k _ _ _=>decide (4<=k)&&decide (k<4+m)
 | .ptr k _=>decide (4<=k)&&decide (k<4+m)
 | .agg cs=>mR m cs
 | .aN cs=>mR m cs
 | .fn _ cs=>mR m cs
 |_=>false
def mR (m:Nat):List AV->Bool
 |[]=>true
 |c::cs=>bZ m c&&mR m cs
end
mutual
def na:AV->Bool
 | .v _=>true
 | .own _ _ _ _=>true
 | .agg cs=>jD cs
 | .aN cs=>jD cs
 | .fn _ cs=>jD cs
 |_=>false
def jD:List AV->Bool
 |[]=>true
 |c::cs=>na c&&jD cs
end
theorem kL (nm:Nat):∀ (cs:List AV) (i:Nat) (c:AV),(jV nm cs)[i]? =some c->∃ x,cs[i]? =some x/\c=sh nm x
 |[],i,c,h=>by simp [jV] at h
 |x::cs,0,c,h=>by simp [jV] at h;exact ⟨x,rfl,h.symm⟩
 |x::cs,i+1,c,h=>by
  simp only [jV,List.getElem?_cons_succ] at h
  simpa using kL nm cs i c h
theorem kM (nm:Nat):∀ (cs:List AV),(jV nm cs).length=cs.length
 |[]=>rfl
 |x::cs=>by simp [jV,kM nm cs]
theorem r9 {m:Nat}:∀ (cs:List AV),mR m cs=true->∀ (i:Nat) (c:AV),cs[i]? =some c->bZ m c=true
 |[],_,i,c,h=>by simp at h
 |x::cs,hh,0,c,h=>by simp only [mR,Bool.and_eq_true] at hh;simp at h;subst h;exact hh.1
 |x::cs,hh,i+1,c,h=>by simp only [mR,Bool.and_eq_true] at hh;exact r9 cs hh.2 i c (by simpa using h)
theorem jW:∀ (cs:List AV),jD cs=true->∀ (i:Nat) (c:AV),cs[i]? =some c->na c=true
 |[],_,i,c,h=>by simp at h
 |x::cs,hh,0,c,h=>by simp only [jD,Bool.and_eq_true] at hh;simp at h;subst h;exact hh.1
 |x::cs,hh,i+1,c,h=>by simp only [jD,Bool.and_eq_true] at hh;exact jW cs hh.2 i c (by simpa using h)
theorem gH:∀ (l:List Ob) (k j:Nat),get (bS k l) j=if k<=j then l[j - k]? else none
 |[],k,j=>by simp [bS]
 |o::l,k,j=>by
  simp only [bS,get]
  by_cases e:k=j
  ·subst e;simp
  ·rw [if_neg e,gH l (k+1) j]
   by_cases h:k<=j
   ·rw [if_pos h,if_pos (show k+1<=j by omega)]
    have:j - k=(j - (k+1))+1:=by omega
    rw [this,List.getElem?_cons_succ]
   ·rw [if_neg h,if_neg (by omega)]
theorem get_append {α:Type} (us t:List (Nat×α)) (k:Nat):get (us++t) k=match get us k with
 |some x=>some x
 |none=>get t k:=by
 induction us with
 |nil=>rfl
 |cons p us ih=>
  obtain ⟨a,b⟩:=p
  simp only [List.cons_append,get]
  split
  ·rfl
  ·exact ih
theorem uU {bs:List (List AV)} {es:List Ob} {i:Nat} {cs:List AV} (h:bs[i]? =some cs):get (outs bs es) i=some (.box cs):=by
 simp [outs,get_append,dM,gH,h]
theorem zI {bs:List (List AV)} {es:List Ob} {i:Nat} {o:Ob} (hb:bs.length<=4) (h:es[i]? =some o):get (outs bs es) (4+i)=some o:=by
 have:(bs.map Ob.box)[4+i]? =none:=by rw [List.getElem?_map,List.getElem?_eq_none (by omega)];rfl
 simp only [outs,get_append,dM,gH,Nat.zero_le,if_true,Nat.sub_zero,this]
 rw [if_pos (by omega)]
 have:4+i - 4=i:=by omega
 rw [this,h]
theorem si:∀ (B:List Nat) (bs:List (List AV)) (k:Nat) (o:Ob),get (eH B bs) k=some o->∃ (i:Nat) (cs:List AV),B[i]? =some k/\bs[i]? =some cs/\o= .box cs
 |[],bs,k,o,h=>by simp [eH,get] at h
 |b::B,[],k,o,h=>by simp [eH,get] at h
 |b::B,cs::bs,k,o,h=>by
  simp only [eH,get] at h
  split at h
  ·rename_i e;cases h;subst e;exact ⟨0,cs,rfl,rfl,rfl⟩
  ·obtain ⟨i,cs',h1,h2,h3⟩:=si B bs k o h
   exact ⟨i+1,cs',by simpa using h1,by simpa using h2,h3⟩
theorem zJ:∀ (B:List Nat) (bs:List (List AV)) (k:Nat),get (eH B bs) k=none->B.length=bs.length->k ∉ B
 |[],bs,k,h,hl=>by simp
 |b::B,[],k,h,hl=>by simp at hl
 |b::B,cs::bs,k,h,hl=>by
  simp only [eH,get] at h
  split at h
  ·cases h
  ·rename_i e
   have:=zJ B bs k h (by simpa using hl)
   simp only [List.mem_cons,not_or]
   exact ⟨fun h=>e h.symm,this⟩
section
variable {w w':World} {ok ok':Nat->Prop} {ρ ρ':Nat->Loc} {U U':Nat->Prop}
theorem dO.mono (hok:∀ g,ok g->ok' g) (hw:∀ g,ok g->w'.heap[g]? =w.heap[g]?) (hU:∀ b,U b->U' b) (hρ:Later U ρ ρ') {l:Loc} {o:Ob}
 (hl:∀ g o n,l= .at g o n->w'.heap[g]? =w.heap[g]?) (ho:dO w ok ρ U l o):dO w' ok' ρ' U' l o:=by
 cases o with
 |box cs=>
  obtain ⟨g,o,n,e,cells,h1,h2,h3,h4,h5⟩:=ho
  refine ⟨g,o,n,e,cells,h1,(hl g o n h1).trans h2,h3,h4,fun j c hj=> ?_⟩
  obtain ⟨u,hu,hv⟩:=h5 j c hj
  exact ⟨u,hu,hv.mono hok hw hU hρ⟩
 |row e sz xs=>
  rcases ho with ho|⟨g,o,n,cells,h1,h2,h3,h4,h5,h6⟩
  ·exact .inl ho
  ·refine .inr ⟨g,o,n,cells,h1,(hl g o n h1).trans h2,h3,h4,h5,fun k x j c hk hj=> ?_⟩
   obtain ⟨u,hu,h1c,hv⟩:=h6 k x j c hk hj
   exact ⟨u,hu,h1c,hv.mono hok hw⟩
 |map es=>
  obtain ⟨g,bG,clock,h1,h2,h3,h4⟩:=ho
  exact ⟨g,bG,clock,h1,(hl g 0 0 h1).trans h2,h3,fun i k c m hi he=>⟨(h4 i k c m hi he).1,(h4 i k c m hi he).2.mono hok hw hU hρ⟩⟩
 |dead=>exact ho
theorem VP.na {x:AV} {u:Value} (h:VP w ok x u):Eng.na x=true->VP w' ok' x u:=by
 induction h with
 |v x=>intro _;exact .v x
 |agg hl _ ih=>intro hn;exact .agg hl fun i c u h1 h2=>ih i c u h1 h2 (jW _ (by simpa [Eng.na] using hn) i c h1)
 |aN hl _ ih=>intro hn;exact .aN hl fun i c u h1 h2=>ih i c u h1 h2 (jW _ (by simpa [Eng.na] using hn) i c h1)
 |fn hf hl _ ih=>intro hn;exact .fn hf hl fun i c u h1 h2=>ih i c u h1 h2 (jW _ (by simpa [Eng.na] using hn) i c h1)
 |jN h hc ih=>intro hn;simp [Eng.na,jD] at hn
 |fo=>intro hn;simp [Eng.na] at hn
 |sl=>intro hn;simp [Eng.na] at hn
 |bB=>intro hn;simp [Eng.na] at hn
theorem VR.sh {nm m:Nat} (hok:∀ g,ok g->ok' g) (hρ:∀ i,i<m->ρ' (nm+i)=ρ (4+i)) (hU:∀ i,i<m->U' (nm+i)) {x:AV} {u:Value} (h:VR w ok ρ U x u):
 bZ m x=true->VR w ok' ρ' U' (Eng.sh nm x) u:=by
 have kp:∀ {x:AV} {u:Value},VP w ok x u->VR w ok' ρ' U' (Eng.sh nm x) u:=fun h=>by
  induction h with
  |v x=>exact .p (.v x)
  |agg hl _ ih=>
   refine .agg (by rw [kM];exact hl) fun i c u h1 h2=> ?_
   obtain ⟨x,hx,rfl⟩:=kL nm _ i c h1
   exact ih i x u hx h2
  |aN hl _ ih=>
   refine .aN (by rw [kM];exact hl) fun i c u h1 h2=> ?_
   obtain ⟨x,hx,rfl⟩:=kL nm _ i c h1
   exact ih i x u hx h2
  |fn hf hl _ ih=>
   refine .fn hf (by rw [kM];exact hl) fun i c u h1 h2=> ?_
   obtain ⟨x,hx,rfl⟩:=kL nm _ i c h1
   exact ih i x u hx h2
  |jN h hc ih=>exact .p (.jN (h.mono hok (fun _ _=>rfl)) hc)
  |fo=>exact .p .fo
  |sl a n cap f h1 h2 h3 h4 h5 h6=>exact .p ((VP.sl a n cap f h1 h2 h3 h4 h5 h6).mono hok (fun _ _=>rfl))
  |bB g o f h1 h2 h3=>exact .p ((VP.bB g o f h1 h2 h3).mono hok (fun _ _=>rfl))
 induction h with
 |p h=>intro _;exact kp h
 |agg hl _ ih=>
  intro he
  refine .agg (by rw [kM];exact hl) fun i c u h1 h2=> ?_
  obtain ⟨x,hx,rfl⟩:=kL nm _ i c h1
  exact ih i x u hx h2 (r9 _ (by simpa [bZ] using he) i x hx)
 |aN hl _ ih=>
  intro he
  refine .aN (by rw [kM];exact hl) fun i c u h1 h2=> ?_
  obtain ⟨x,hx,rfl⟩:=kL nm _ i c h1
  exact ih i x u hx h2 (r9 _ (by simpa [bZ] using he) i x hx)
 |fn hf hl _ ih=>
  intro he
  refine .fn hf (by rw [kM];exact hl) fun i c u h1 h2=> ?_
  obtain ⟨x,hx,rfl⟩:=kL nm _ i c h1
  exact ih i x u hx h2 (r9 _ (by simpa [bZ] using he) i x hx)
 |own hu h=>
  intro he
  simp only [bZ,Bool.and_eq_true,decide_eq_true_eq] at he
  rename_i b sz off len u
  have e:4+(b - 4)=b:=by omega
  refine .own (hU _ (by omega)) ?_
  rw [hρ _ (by omega),e]
  exact h
 |ptr a hu h=>
  intro he
  simp only [bZ,Bool.and_eq_true,decide_eq_true_eq] at he
  rename_i b j
  have e:4+(b - 4)=b:=by omega
  refine .ptr a (hU _ (by omega)) ?_
  rw [hρ _ (by omega),e]
  exact h
 |rp=>intro he;simp [bZ] at he
 |mp=>intro he;simp [bZ] at he
theorem VR.Ky {nm m:Nat} (hρ:∀ i,i<m->ρ' (nm+i)=ρ (4+i)) (hU:∀ i,i<m->U' (nm+i)) {x:AV} {u:Value} (h:VR w ok ρ U x u):
 bZ m x=true->Eng.na x=true->VR w' ok' ρ' U' (Eng.sh nm x) u:=by
 have kp:∀ {x:AV} {u:Value},VP w ok x u->Eng.na x=true->VR w' ok' ρ' U' (Eng.sh nm x) u:=fun h=>by
  induction h with
  |v x=>intro _;exact .p (.v x)
  |agg hl _ ih=>
   intro hn
   refine .agg (by rw [kM];exact hl) fun i c u h1 h2=> ?_
   obtain ⟨x,hx,rfl⟩:=kL nm _ i c h1
   exact ih i x u hx h2 (jW _ (by simpa [Eng.na] using hn) i x hx)
  |aN hl _ ih=>
   intro hn
   refine .aN (by rw [kM];exact hl) fun i c u h1 h2=> ?_
   obtain ⟨x,hx,rfl⟩:=kL nm _ i c h1
   exact ih i x u hx h2 (jW _ (by simpa [Eng.na] using hn) i x hx)
  |fn hf hl _ ih=>
   intro hn
   refine .fn hf (by rw [kM];exact hl) fun i c u h1 h2=> ?_
   obtain ⟨x,hx,rfl⟩:=kL nm _ i c h1
   exact ih i x u hx h2 (jW _ (by simpa [Eng.na] using hn) i x hx)
  |jN h hc ih=>intro hn;simp [Eng.na,jD] at hn
  |fo=>intro hn;simp [Eng.na] at hn
  |sl=>intro hn;simp [Eng.na] at hn
  |bB=>intro hn;simp [Eng.na] at hn
 induction h with
 |p h=>intro _ hn;exact kp h hn
 |agg hl _ ih=>
  intro he hn
  refine .agg (by rw [kM];exact hl) fun i c u h1 h2=> ?_
  obtain ⟨x,hx,rfl⟩:=kL nm _ i c h1
  exact ih i x u hx h2 (r9 _ (by simpa [bZ] using he) i x hx) (jW _ (by simpa [Eng.na] using hn) i x hx)
 |aN hl _ ih=>
  intro he hn
  refine .aN (by rw [kM];exact hl) fun i c u h1 h2=> ?_
  obtain ⟨x,hx,rfl⟩:=kL nm _ i c h1
  exact ih i x u hx h2 (r9 _ (by simpa [bZ] using he) i x hx) (jW _ (by simpa [Eng.na] using hn) i x hx)
 |fn hf hl _ ih=>
  intro he hn
  refine .fn hf (by rw [kM];exact hl) fun i c u h1 h2=> ?_
  obtain ⟨x,hx,rfl⟩:=kL nm _ i c h1
  exact ih i x u hx h2 (r9 _ (by simpa [bZ] using he) i x hx) (jW _ (by simpa [Eng.na] using hn) i x hx)
 |own hu h=>
  intro he hn
  simp only [bZ,Bool.and_eq_true,decide_eq_true_eq] at he
  rename_i b sz off len u
  have e:4+(b - 4)=b:=by omega
  refine .own (hU _ (by omega)) ?_
  rw [hρ _ (by omega),e]
  exact h
 |ptr=>intro he hn;simp [Eng.na] at hn
 |rp=>intro he;simp [bZ] at he
 |mp=>intro he;simp [bZ] at he
end
end Go.Eng
namespace Go.Eng
open Go
inductive It where
 |ops (nm n:Nat) (l:List av)
 |code (c:cK)
 |blk (id:Nat)
 |lp (B:St->Prop)
 |bC (nm n:Nat) (l ops:List av) (acc:List aW)
def gJ (P:Program) (Q:Exit->St->Prop):List It->St->Prop
 |[]=>Q .normal
 | .ops nm n l::k=>fun s=>wpOps P nm l s.t s.h fun t h=>gJ P Q k ⟨n,t,h⟩
 | .code c::k=>fun s=>fu P c (fun e s'=>match e with
  | .normal=>gJ P Q k s'
  | .exit id=>eO P Q id k s'
  |e=>Q e s') s
 | .blk _::k=>gJ P Q k
 | .lp B::_=>B
 | .bC nm n l ops acc::k=>fun s=>jd P nm l acc s.t s.h fun acc t h=>nG ops acc.reverse=true/\gJ P Q k ⟨n,t,h⟩
where
 eO (P:Program) (Q:Exit->St->Prop) (id:Nat):List It->St->Prop
 |[]=>Q (.exit id)
 | .blk i::k=>if i=id then gJ P Q k else eO P Q id k
 | .ops .. ::k=>eO P Q id k
 | .code _::k=>eO P Q id k
 | .lp _::k=>eO P Q id k
 | .bC .. ::k=>eO P Q id k
def go (P:Program) (k:List It) (Q:Exit->St->Prop) (n:Nat) (t:List (Nat×AV)) (h:List (Nat×Ob)):Prop:=gJ P Q k ⟨n,t,h⟩
def eO (P:Program) (id:Nat) (k:List It) (Q:Exit->St->Prop) (n:Nat) (t:List (Nat×AV)) (h:List (Nat×Ob)):Prop:=gJ.eO P Q id k ⟨n,t,h⟩
def sj (P:Program) (c:Option AV) (x y:cK) (k:List It) (Q:Exit->St->Prop) (n:Nat) (t:List (Nat×AV)) (h:List (Nat×Ob)):Prop:=
 mO c (fun b=>Split b (go P (.code x::k) Q n t h) (go P (.code y::k) Q n t h)) False
def dm (P:Program) (e:Option E) (op:dZ) (d:Option Nat) (nm n':Nat) (l:List av) (k:List It) (Q:Exit->St->Prop) (n:Nat) (t:List (Nat×AV)) (h:List (Nat×Ob)):Prop:=
 qd nm t h op e fun t h e=>go P (.ops (nm+8) n' l::k) Q n (aV t d e.val) (e.upd++h)
def lQ (P:Program) (nm:Nat) (f:FuncId) (args:List AV) (d:Option Nat) (n':Nat) (l:List av) (k:List It) (Q:Exit->St->Prop) (n:Nat) (t:List (Nat×AV)) (h:List (Nat×Ob)):Prop:=
 nE P nm f args h fun r h'=>go P (.ops (nm+8) n' l::k) Q n (aV t d r) h'
def goC (P:Program) (f:Option AV) (args:Option (List AV)) (d:Option Nat) (nm n':Nat) (l:List av) (k:List It) (Q:Exit->St->Prop) (n:Nat) (t:List (Nat×AV)) (h:List (Nat×Ob)):Prop:=
 iQ f args fun g xs=>lQ P nm g xs d n' l k Q n t h
def Dm (P:Program) (x:Option (Option Bool)) (neg:Bool) (d:Option Nat) (nm n':Nat) (l:List av) (k:List It) (Q:Exit->St->Prop) (n:Nat) (t:List (Nat×AV)) (h:List (Nat×Ob)):Prop:=
 zf x fun b=>go P (.ops (nm+8) n' l::k) Q n (aV t d (.v (.bool (if neg then !b else b)))) h
def kN (P:Program) (c:Option AV) (o:av) (w:Bool) (nm n':Nat) (l:List av) (k:List It) (Q:Exit->St->Prop) (n:Nat) (t:List (Nat×AV)) (h:List (Nat×Ob)):Prop:=
 mO c (fun b=>Split b
  (bif w then go P (.ops nm n' ({o with guard:=none}::l)::k) Q n t h else go P (.ops (nm+8) n' l::k) Q n (aV t o.dst (.v undef)) h)
  (bif w then go P (.ops (nm+8) n' l::k) Q n (aV t o.dst (.v undef)) h else go P (.ops nm n' ({o with guard:=none}::l)::k) Q n t h))
  (go P (.ops (nm+8) n' l::k) Q n (aV t o.dst (.v undef)) h)
def dD (P:Program) (e:Option E) (rd:List Nat) (d:Option Nat) (nm n':Nat) (l ops:List av) (acc:List aW) (k:List It) (Q:Exit->St->Prop) (n:Nat) (t:List (Nat×AV)) (h:List (Nat×Ob)):Prop:=
 onE e fun e=>go P (.bC (nm+8) n' l ops ((rd,e.upd.map Prod.fst)::acc)::k) Q n (aV t d e.val) (e.upd++h)
def qw (P:Program) (nm:Nat) (f:FuncId) (args:List AV) (d:Option Nat) (n':Nat) (l ops:List av) (acc:List aW) (k:List It) (Q:Exit->St->Prop) (n:Nat) (t:List (Nat×AV)) (h:List (Nat×Ob)):Prop:=
 ∃ r,iR P nm f args h r/\go P (.bC (nm+8) n' l ops ((r.rd,r.upd.map Prod.fst)::acc)::k) Q n (aV t d r.val) (r.upd++h)
def Kz (P:Program) (f:Option AV) (args:Option (List AV)) (d:Option Nat) (nm n':Nat) (l ops:List av) (acc:List aW) (k:List It) (Q:Exit->St->Prop) (n:Nat) (t:List (Nat×AV)) (h:List (Nat×Ob)):Prop:=
 iQ f args fun g xs=>qw P nm g xs d n' l ops acc k Q n t h
def KA (P:Program) (x:Option (Option Bool)) (neg:Bool) (d:Option Nat) (nm n':Nat) (l ops:List av) (acc:List aW) (k:List It) (Q:Exit->St->Prop) (n:Nat) (t:List (Nat×AV)) (h:List (Nat×Ob)):Prop:=
 Cn x fun b=>go P (.bC (nm+8) n' l ops (([],[])::acc)::k) Q n (aV t d (.v (.bool (if neg then !b else b)))) h
def kP (P:Program) (c:Option AV) (o:av) (w:Bool) (nm n':Nat) (l ops:List av) (acc:List aW) (k:List It) (Q:Exit->St->Prop) (n:Nat) (t:List (Nat×AV)) (h:List (Nat×Ob)):Prop:=
 mO c (fun b=>Split b
  (bif w then go P (.bC nm n' ({o with guard:=none}::l) ops acc::k) Q n t h else go P (.bC (nm+8) n' l ops (([],[])::acc)::k) Q n (aV t o.dst (.v undef)) h)
  (bif w then go P (.bC (nm+8) n' l ops (([],[])::acc)::k) Q n (aV t o.dst (.v undef)) h else go P (.bC nm n' ({o with guard:=none}::l) ops acc::k) Q n t h))
  (go P (.bC (nm+8) n' l ops (([],[])::acc)::k) Q n (aV t o.dst (.v undef)) h)
section eqs
variable {P:Program} {k:List It} {Q:Exit->St->Prop} {n:Nat} {t:List (Nat×AV)} {h:List (Nat×Ob)}
theorem Te:go P [] Q n t h=Q .normal ⟨n,t,h⟩:=(rfl)
theorem Dn (a b:cK):go P (.code (.seq a b)::k) Q n t h=go P (.code a:: .code b::k) Q n t h:=by
 simp only [go,gJ,fu]
 congr 1
 funext e s
 cases e<;>rfl
theorem go_skip:go P (.code .skip::k) Q n t h=go P k Q n t h:=(rfl)
theorem Dp (id:Nat):go P (.code (.exit id)::k) Q n t h=eO P id k Q n t h:=(rfl)
theorem go_ret:go P (.code .ret::k) Q n t h=Q .ret ⟨n,t,h⟩:=(rfl)
theorem Tf (id:Nat):go P (.blk id::k) Q n t h=go P k Q n t h:=(rfl)
theorem Tg (B:St->Prop):go P (.lp B::k) Q n t h=B ⟨n,t,h⟩:=(rfl)
theorem Dq (id i:Nat):eO P id (.blk i::k) Q n t h=if i=id then go P k Q n t h else eO P id k Q n t h:=by
 simp only [eO,gJ.eO,go];split<;>rfl
theorem Ti (id nm n':Nat) (l:List av):eO P id (.ops nm n' l::k) Q n t h=eO P id k Q n t h:=(rfl)
theorem Tj (id:Nat) (c:cK):eO P id (.code c::k) Q n t h=eO P id k Q n t h:=(rfl)
theorem Dr (id:Nat) (B:St->Prop):eO P id (.lp B::k) Q n t h=eO P id k Q n t h:=(rfl)
theorem zK (id:Nat) (c:cK):go P (.code (.block id c)::k) Q n t h=go P (.code c:: .blk id::k) Q n t h:=by
 simp only [go,gJ,fu]
 congr 1
 funext e s
 cases e<;>try rfl
 rename_i i
 simp only [wE,gJ.eO]
 by_cases hi:i=id
 ·simp [hi]
 ·have:¬ id=i:=fun h=>hi h.symm
  simp [hi,this]
theorem go_region (ops:List av):go P (.code (.region ops false)::k) Q n t h=go P (.ops n (n+8*ops.length) ops::k) Q n t h:=by
 simp [go,gJ,fu]
theorem Tk (c:Operand) (x y:cK):go P (.code (.cond c x y)::k) Q n t h=sj P (ev t c) x y k Q n t h:=(rfl)
theorem Tn (x y:cK):sj P (some (.v (.bool true))) x y k Q n t h=go P (.code x::k) Q n t h:=by simp [sj,lM,wo]
theorem Tp (x y:cK):sj P (some (.v (.bool false))) x y k Q n t h=go P (.code y::k) Q n t h:=by simp [sj,lM,wu]
theorem dQ {b:Bool} {x y:cK} (h1:b=true->go P (.code x::k) Q n t h) (h2:b=false->go P (.code y::k) Q n t h):sj P (some (.v (.bool b))) x y k Q n t h:=⟨h1,h2⟩
theorem Tq (nm n':Nat):go P (.ops nm n' []::k) Q n t h=go P k Q n' t h:=(rfl)
theorem Tt (d:Option Nat) (x:Operand) (af:List Nat) (nm n':Nat) (l:List av):go P (.ops nm n' (⟨d,.bO x,none,af⟩::l)::k) Q n t h=dm P (ax nm t h (.bO x)) (.bO x) d nm n' l k Q n t h:=(rfl)
theorem Tv (d:Option Nat) (c a b:Operand) (af:List Nat) (nm n':Nat) (l:List av):go P (.ops nm n' (⟨d,.pick c a b,none,af⟩::l)::k) Q n t h=dm P (ax nm t h (.pick c a b)) (.pick c a b) d nm n' l k Q n t h:=(rfl)
theorem Tw (d:Option Nat) (zs:List Value) (af:List Nat) (nm n':Nat) (l:List av):go P (.ops nm n' (⟨d,.alloc zs,none,af⟩::l)::k) Q n t h=dm P (ax nm t h (.alloc zs)) (.alloc zs) d nm n' l k Q n t h:=(rfl)
theorem Tx (d:Option Nat) (x:Operand) (af:List Nat) (nm n':Nat) (l:List av):go P (.ops nm n' (⟨d,.box x,none,af⟩::l)::k) Q n t h=dm P (ax nm t h (.box x)) (.box x) d nm n' l k Q n t h:=(rfl)
theorem Ty (d:Option Nat) (zs:List Value) (parts:List (Nat×Nat×Operand)) (af:List Nat) (nm n':Nat) (l:List av):go P (.ops nm n' (⟨d,.build zs parts,none,af⟩::l)::k) Q n t h=dm P (ax nm t h (.build zs parts)) (.build zs parts) d nm n' l k Q n t h:=(rfl)
theorem Tz (d:Option Nat) (e:TypeId) (sz:Nat) (zs:List Value) (len:Nat) (parts:List (Nat×Operand)) (af:List Nat) (nm n':Nat) (l:List av):go P (.ops nm n' (⟨d,.jm e sz zs len parts,none,af⟩::l)::k) Q n t h=dm P (ax nm t h (.jm e sz zs len parts)) (.jm e sz zs len parts) d nm n' l k Q n t h:=(rfl)
theorem TA (d:Option Nat) (ag:Bool) (sz:Nat) (x:Operand) (af:List Nat) (nm n':Nat) (l:List av):go P (.ops nm n' (⟨d,.load ag sz x,none,af⟩::l)::k) Q n t h=dm P (ax nm t h (.load ag sz x)) (.load ag sz x) d nm n' l k Q n t h:=(rfl)
theorem TB (d:Option Nat) (sz:Nat) (x y:Operand) (af:List Nat) (nm n':Nat) (l:List av):go P (.ops nm n' (⟨d,.store sz x y,none,af⟩::l)::k) Q n t h=dm P (ax nm t h (.store sz x y)) (.store sz x y) d nm n' l k Q n t h:=(rfl)
theorem TD (d:Option Nat) (x:Operand) (af:List Nat) (nm n':Nat) (l:List av):go P (.ops nm n' (⟨d,.lI x,none,af⟩::l)::k) Q n t h=dm P (ax nm t h (.lI x)) (.lI x) d nm n' l k Q n t h:=(rfl)
theorem TF (d:Option Nat) (op:BinOp) (x y:Operand) (af:List Nat) (nm n':Nat) (l:List av):go P (.ops nm n' (⟨d,.bin op x y,none,af⟩::l)::k) Q n t h=dm P (ax nm t h (.bin op x y)) (.bin op x y) d nm n' l k Q n t h:=(rfl)
theorem TG (d:Option Nat) (neg:Bool) (ks:List Nat) (x y:Operand) (af:List Nat) (nm n':Nat) (l:List av):go P (.ops nm n' (⟨d,.eqs neg ks x y,none,af⟩::l)::k) Q n t h=dm P (ax nm t h (.eqs neg ks x y)) (.eqs neg ks x y) d nm n' l k Q n t h:=(rfl)
theorem TH (d:Option Nat) (op:UnOp) (x:Operand) (af:List Nat) (nm n':Nat) (l:List av):go P (.ops nm n' (⟨d,.un op x,none,af⟩::l)::k) Q n t h=dm P (ax nm t h (.un op x)) (.un op x) d nm n' l k Q n t h:=(rfl)
theorem TI (d:Option Nat) (q:IntKind) (x:Operand) (af:List Nat) (nm n':Nat) (l:List av):go P (.ops nm n' (⟨d,.conv q x,none,af⟩::l)::k) Q n t h=dm P (ax nm t h (.conv q x)) (.conv q x) d nm n' l k Q n t h:=(rfl)
theorem TJ (d:Option Nat) (e:TypeId) (x:Operand) (af:List Nat) (nm n':Nat) (l:List av):go P (.ops nm n' (⟨d,.qa e x,none,af⟩::l)::k) Q n t h=dm P (ax nm t h (.qa e x)) (.qa e x) d nm n' l k Q n t h:=(rfl)
theorem TK (d:Option Nat) (x:Operand) (af:List Nat) (nm n':Nat) (l:List av):go P (.ops nm n' (⟨d,.jO x,none,af⟩::l)::k) Q n t h=dm P (ax nm t h (.jO x)) (.jO x) d nm n' l k Q n t h:=(rfl)
theorem TL (d:Option Nat) (f:FuncId) (caps:List Operand) (af:List Nat) (nm n':Nat) (l:List av):go P (.ops nm n' (⟨d,.mH f caps,none,af⟩::l)::k) Q n t h=dm P (ax nm t h (.mH f caps)) (.mH f caps) d nm n' l k Q n t h:=(rfl)
theorem TM (d:Option Nat) (af:List Nat) (nm n':Nat) (l:List av):go P (.ops nm n' (⟨d,.nC,none,af⟩::l)::k) Q n t h=dm P (ax nm t h (.nC)) (.nC) d nm n' l k Q n t h:=(rfl)
theorem TN (d:Option Nat) (z:Value) (m x:Operand) (af:List Nat) (nm n':Nat) (l:List av):go P (.ops nm n' (⟨d,.look z m x,none,af⟩::l)::k) Q n t h=dm P (ax nm t h (.look z m x)) (.look z m x) d nm n' l k Q n t h:=(rfl)
theorem TP (d:Option Nat) (z:Value) (m x:Operand) (af:List Nat) (nm n':Nat) (l:List av):go P (.ops nm n' (⟨d,.ow z m x,none,af⟩::l)::k) Q n t h=dm P (ax nm t h (.ow z m x)) (.ow z m x) d nm n' l k Q n t h:=(rfl)
theorem TQ (d:Option Nat) (m x y:Operand) (af:List Nat) (nm n':Nat) (l:List av):go P (.ops nm n' (⟨d,.jy m x y,none,af⟩::l)::k) Q n t h=dm P (ax nm t h (.jy m x y)) (.jy m x y) d nm n' l k Q n t h:=(rfl)
theorem TR (d:Option Nat) (e:TypeId) (sz bytes:Nat) (zs:List Value) (a c:Operand) (af:List Nat) (nm n':Nat) (l:List av):go P (.ops nm n' (⟨d,.ku e sz bytes zs a c,none,af⟩::l)::k) Q n t h=dm P (ax nm t h (.ku e sz bytes zs a c)) (.ku e sz bytes zs a c) d nm n' l k Q n t h:=(rfl)
theorem TS (d:Option Nat) (sz:Nat) (x:Operand) (lo hi mx:Option Operand) (af:List Nat) (nm n':Nat) (l:List av):go P (.ops nm n' (⟨d,.slice sz x lo hi mx,none,af⟩::l)::k) Q n t h=dm P (ax nm t h (.slice sz x lo hi mx)) (.slice sz x lo hi mx) d nm n' l k Q n t h:=(rfl)
theorem TT (d:Option Nat) (x:Operand) (lo hi:Option Operand) (af:List Nat) (nm n':Nat) (l:List av):go P (.ops nm n' (⟨d,.jP x lo hi,none,af⟩::l)::k) Q n t h=dm P (ax nm t h (.jP x lo hi)) (.jP x lo hi) d nm n' l k Q n t h:=(rfl)
theorem TU (d:Option Nat) (off:Nat) (x:Operand) (af:List Nat) (nm n':Nat) (l:List av):go P (.ops nm n' (⟨d,.jo off x,none,af⟩::l)::k) Q n t h=dm P (ax nm t h (.jo off x)) (.jo off x) d nm n' l k Q n t h:=(rfl)
theorem TV (d:Option Nat) (ag:Bool) (off sz:Nat) (x:Operand) (af:List Nat) (nm n':Nat) (l:List av):go P (.ops nm n' (⟨d,.mI ag off sz x,none,af⟩::l)::k) Q n t h=dm P (ax nm t h (.mI ag off sz x)) (.mI ag off sz x) d nm n' l k Q n t h:=(rfl)
theorem TW (d:Option Nat) (sz:Nat) (x i:Operand) (af:List Nat) (nm n':Nat) (l:List av):go P (.ops nm n' (⟨d,.jA sz x i,none,af⟩::l)::k) Q n t h=dm P (ax nm t h (.jA sz x i)) (.jA sz x i) d nm n' l k Q n t h:=(rfl)
theorem TY (d:Option Nat) (len sz:Nat) (x i:Operand) (af:List Nat) (nm n':Nat) (l:List av):go P (.ops nm n' (⟨d,.kz len sz x i,none,af⟩::l)::k) Q n t h=dm P (ax nm t h (.kz len sz x i)) (.kz len sz x i) d nm n' l k Q n t h:=(rfl)
theorem T9 (d:Option Nat) (ag:Bool) (len sz:Nat) (x i:Operand) (af:List Nat) (nm n':Nat) (l:List av):go P (.ops nm n' (⟨d,.idx ag len sz x i,none,af⟩::l)::k) Q n t h=dm P (ax nm t h (.idx ag len sz x i)) (.idx ag len sz x i) d nm n' l k Q n t h:=(rfl)
theorem Ua (d:Option Nat) (x i:Operand) (af:List Nat) (nm n':Nat) (l:List av):go P (.ops nm n' (⟨d,.idxs x i,none,af⟩::l)::k) Q n t h=dm P (ax nm t h (.idxs x i)) (.idxs x i) d nm n' l k Q n t h:=(rfl)
theorem Ub (d:Option Nat) (x:Operand) (af:List Nat) (nm n':Nat) (l:List av):go P (.ops nm n' (⟨d,.len x,none,af⟩::l)::k) Q n t h=dm P (ax nm t h (.len x)) (.len x) d nm n' l k Q n t h:=(rfl)
theorem Ud (d:Option Nat) (x:Operand) (af:List Nat) (nm n':Nat) (l:List av):go P (.ops nm n' (⟨d,.cap x,none,af⟩::l)::k) Q n t h=dm P (ax nm t h (.cap x)) (.cap x) d nm n' l k Q n t h:=(rfl)
theorem Ue (d:Option Nat) (e:TypeId) (sz bytes:Nat) (zs:List Value) (x y:Operand) (af:List Nat) (nm n':Nat) (l:List av):go P (.ops nm n' (⟨d,.app e sz bytes zs x y,none,af⟩::l)::k) Q n t h=dm P (ax nm t h (.app e sz bytes zs x y)) (.app e sz bytes zs x y) d nm n' l k Q n t h:=(rfl)
theorem Uf (d:Option Nat) (sz:Nat) (zs:List Value) (x:Operand) (af:List Nat) (nm n':Nat) (l:List av):go P (.ops nm n' (⟨d,.kD sz zs x,none,af⟩::l)::k) Q n t h=dm P (ax nm t h (.kD sz zs x)) (.kD sz zs x) d nm n' l k Q n t h:=(rfl)
theorem Ug (d:Option Nat) (sz:Nat) (x y:Operand) (af:List Nat) (nm n':Nat) (l:List av):go P (.ops nm n' (⟨d,.copy sz x y,none,af⟩::l)::k) Q n t h=dm P (ax nm t h (.copy sz x y)) (.copy sz x y) d nm n' l k Q n t h:=(rfl)
theorem Uh (d:Option Nat) (i:Nat) (x:Operand) (af:List Nat) (nm n':Nat) (l:List av):go P (.ops nm n' (⟨d,.ext i x,none,af⟩::l)::k) Q n t h=dm P (ax nm t h (.ext i x)) (.ext i x) d nm n' l k Q n t h:=(rfl)
theorem Ui (d:Option Nat) (mx:Bool) (xs:List Operand) (af:List Nat) (nm n':Nat) (l:List av):go P (.ops nm n' (⟨d,.lK mx xs,none,af⟩::l)::k) Q n t h=dm P (ax nm t h (.lK mx xs)) (.lK mx xs) d nm n' l k Q n t h:=(rfl)
theorem Uj (d:Option Nat) (neg:Bool) (x:Operand) (af:List Nat) (nm n':Nat) (l:List av):go P (.ops nm n' (⟨d,.jw neg x,none,af⟩::l)::k) Q n t h=Dm P (qc (ev t x)) neg d nm n' l k Q n t h:=(rfl)
theorem Uk (b neg:Bool) (d:Option Nat) (nm n':Nat) (l:List av):Dm P (some (some b)) neg d nm n' l k Q n t h=go P (.ops (nm+8) n' l::k) Q n (aV t d (.v (.bool (if neg then !b else b)))) h:=(rfl)
theorem Ul (neg:Bool) (d:Option Nat) (nm n':Nat) (l:List av):Dm P (some none) neg d nm n' l k Q n t h=
 (go P (.ops (nm+8) n' l::k) Q n (aV t d (.v (.bool (if neg then !true else true)))) h/\go P (.ops (nm+8) n' l::k) Q n (aV t d (.v (.bool (if neg then !false else false)))) h):=(rfl)
theorem Um (d:Option Nat) (e:TypeId) (sz bytes:Nat) (zs:List Value) (x y:Operand) (af:List Nat) (nm n':Nat) (l:List av):go P (.ops nm n' (⟨d,.kC e sz bytes zs x y,none,af⟩::l)::k) Q n t h=dm P (ax nm t h (.kC e sz bytes zs x y)) (.kC e sz bytes zs x y) d nm n' l k Q n t h:=(rfl)
theorem Un (d:Option Nat) (neg:Bool) (x y:Operand) (af:List Nat) (nm n':Nat) (l:List av):go P (.ops nm n' (⟨d,.lJ neg x y,none,af⟩::l)::k) Q n t h=dm P (ax nm t h (.lJ neg x y)) (.lJ neg x y) d nm n' l k Q n t h:=(rfl)
theorem Uo (d:Option Nat) (x:Operand) (af:List Nat) (nm n':Nat) (l:List av):go P (.ops nm n' (⟨d,.mJ x,none,af⟩::l)::k) Q n t h=dm P (ax nm t h (.mJ x)) (.mJ x) d nm n' l k Q n t h:=(rfl)
theorem go_call (d:Option Nat) (f:Operand) (args:List Operand) (af:List Nat) (nm n':Nat) (l:List av):
 go P (.ops nm n' (⟨d,.call f args,none,af⟩::l)::k) Q n t h=goC P (ev t f) (iO t args) d nm n' l k Q n t h:=(rfl)
theorem Uq (d:Option Nat) (op:dZ) (g:Nat) (w:Bool) (af:List Nat) (nm n':Nat) (l:List av):
 go P (.ops nm n' (⟨d,op,some (g,w),af⟩::l)::k) Q n t h=kN P (get t g) ⟨d,op,none,af⟩ w nm n' l k Q n t h:=by
 cases w<;>rfl
theorem Ur (e:E) (op:dZ) (d:Option Nat) (nm n':Nat) (l:List av):
 dm P (some e) op d nm n' l k Q n t h=(e.pre/\go P (.ops (nm+8) n' l::k) Q n (aV t d e.val) (e.upd++h)):=(rfl)
theorem Us (g:FuncId) (caps xs:List AV) (d:Option Nat) (nm n':Nat) (l:List av):
 goC P (some (.fn g caps)) (some xs) d nm n' l k Q n t h=if g<1000000 then lQ P nm g (xs++caps) d n' l k Q n t h else if g<2000000 then lQ P nm (g - 1000000) (caps++xs) d n' l k Q n t h else False:=(rfl)
theorem Ut (o:av) (w:Bool) (nm n':Nat) (l:List av):
 kN P (some (.v undef)) o w nm n' l k Q n t h=go P (.ops (nm+8) n' l::k) Q n (aV t o.dst (.v undef)) h:=(rfl)
theorem Uu (o:av) (nm n':Nat) (l:List av):
 kN P (some (.v (.bool true))) o true nm n' l k Q n t h=go P (.ops nm n' ({o with guard:=none}::l)::k) Q n t h:=by simp [kN,lM,wo]
theorem Uv (o:av) (nm n':Nat) (l:List av):
 kN P (some (.v (.bool true))) o false nm n' l k Q n t h=go P (.ops (nm+8) n' l::k) Q n (aV t o.dst (.v undef)) h:=by simp [kN,lM,wo]
theorem Uw (o:av) (nm n':Nat) (l:List av):
 kN P (some (.v (.bool false))) o true nm n' l k Q n t h=go P (.ops (nm+8) n' l::k) Q n (aV t o.dst (.v undef)) h:=by simp [kN,lM,wu]
theorem Ux (o:av) (nm n':Nat) (l:List av):
 kN P (some (.v (.bool false))) o false nm n' l k Q n t h=go P (.ops nm n' ({o with guard:=none}::l)::k) Q n t h:=by simp [kN,lM,wu]
theorem je {b:Bool} {o:av} {w:Bool} {nm n':Nat} {l:List av}
 (h1:b=true->kN P (some (.v (.bool true))) o w nm n' l k Q n t h) (h2:b=false->kN P (some (.v (.bool false))) o w nm n' l k Q n t h):
 kN P (some (.v (.bool b))) o w nm n' l k Q n t h:=by
 cases b
 ·exact h2 rfl
 ·exact h1 rfl
theorem Uy (d:Option Nat) (x:Operand) (af:List Nat) (nm n':Nat) (l ops:List av) (acc:List aW):go P (.bC nm n' (⟨d,.bO x,none,af⟩::l) ops acc::k) Q n t h=dD P (ax nm t h (.bO x)) (bP t (.bO x)) d nm n' l ops acc k Q n t h:=(rfl)
theorem Uz (d:Option Nat) (c a b:Operand) (af:List Nat) (nm n':Nat) (l ops:List av) (acc:List aW):go P (.bC nm n' (⟨d,.pick c a b,none,af⟩::l) ops acc::k) Q n t h=dD P (ax nm t h (.pick c a b)) (bP t (.pick c a b)) d nm n' l ops acc k Q n t h:=(rfl)
theorem UA (d:Option Nat) (zs:List Value) (af:List Nat) (nm n':Nat) (l ops:List av) (acc:List aW):go P (.bC nm n' (⟨d,.alloc zs,none,af⟩::l) ops acc::k) Q n t h=dD P (ax nm t h (.alloc zs)) (bP t (.alloc zs)) d nm n' l ops acc k Q n t h:=(rfl)
theorem UB (d:Option Nat) (x:Operand) (af:List Nat) (nm n':Nat) (l ops:List av) (acc:List aW):go P (.bC nm n' (⟨d,.box x,none,af⟩::l) ops acc::k) Q n t h=dD P (ax nm t h (.box x)) (bP t (.box x)) d nm n' l ops acc k Q n t h:=(rfl)
theorem UC (d:Option Nat) (zs:List Value) (parts:List (Nat×Nat×Operand)) (af:List Nat) (nm n':Nat) (l ops:List av) (acc:List aW):go P (.bC nm n' (⟨d,.build zs parts,none,af⟩::l) ops acc::k) Q n t h=dD P (ax nm t h (.build zs parts)) (bP t (.build zs parts)) d nm n' l ops acc k Q n t h:=(rfl)
theorem UD (d:Option Nat) (e:TypeId) (sz:Nat) (zs:List Value) (len:Nat) (parts:List (Nat×Operand)) (af:List Nat) (nm n':Nat) (l ops:List av) (acc:List aW):go P (.bC nm n' (⟨d,.jm e sz zs len parts,none,af⟩::l) ops acc::k) Q n t h=dD P (ax nm t h (.jm e sz zs len parts)) (bP t (.jm e sz zs len parts)) d nm n' l ops acc k Q n t h:=(rfl)
theorem UE (d:Option Nat) (ag:Bool) (sz:Nat) (x:Operand) (af:List Nat) (nm n':Nat) (l ops:List av) (acc:List aW):go P (.bC nm n' (⟨d,.load ag sz x,none,af⟩::l) ops acc::k) Q n t h=dD P (ax nm t h (.load ag sz x)) (bP t (.load ag sz x)) d nm n' l ops acc k Q n t h:=(rfl)
theorem UF (d:Option Nat) (sz:Nat) (x y:Operand) (af:List Nat) (nm n':Nat) (l ops:List av) (acc:List aW):go P (.bC nm n' (⟨d,.store sz x y,none,af⟩::l) ops acc::k) Q n t h=dD P (ax nm t h (.store sz x y)) (bP t (.store sz x y)) d nm n' l ops acc k Q n t h:=(rfl)
theorem UG (d:Option Nat) (x:Operand) (af:List Nat) (nm n':Nat) (l ops:List av) (acc:List aW):go P (.bC nm n' (⟨d,.lI x,none,af⟩::l) ops acc::k) Q n t h=dD P (ax nm t h (.lI x)) (bP t (.lI x)) d nm n' l ops acc k Q n t h:=(rfl)
theorem UH (d:Option Nat) (op:BinOp) (x y:Operand) (af:List Nat) (nm n':Nat) (l ops:List av) (acc:List aW):go P (.bC nm n' (⟨d,.bin op x y,none,af⟩::l) ops acc::k) Q n t h=dD P (ax nm t h (.bin op x y)) (bP t (.bin op x y)) d nm n' l ops acc k Q n t h:=(rfl)
theorem UI (d:Option Nat) (neg:Bool) (ks:List Nat) (x y:Operand) (af:List Nat) (nm n':Nat) (l ops:List av) (acc:List aW):go P (.bC nm n' (⟨d,.eqs neg ks x y,none,af⟩::l) ops acc::k) Q n t h=dD P (ax nm t h (.eqs neg ks x y)) (bP t (.eqs neg ks x y)) d nm n' l ops acc k Q n t h:=(rfl)
theorem UJ (d:Option Nat) (op:UnOp) (x:Operand) (af:List Nat) (nm n':Nat) (l ops:List av) (acc:List aW):go P (.bC nm n' (⟨d,.un op x,none,af⟩::l) ops acc::k) Q n t h=dD P (ax nm t h (.un op x)) (bP t (.un op x)) d nm n' l ops acc k Q n t h:=(rfl)
theorem UK (d:Option Nat) (q:IntKind) (x:Operand) (af:List Nat) (nm n':Nat) (l ops:List av) (acc:List aW):go P (.bC nm n' (⟨d,.conv q x,none,af⟩::l) ops acc::k) Q n t h=dD P (ax nm t h (.conv q x)) (bP t (.conv q x)) d nm n' l ops acc k Q n t h:=(rfl)
theorem UL (d:Option Nat) (e:TypeId) (x:Operand) (af:List Nat) (nm n':Nat) (l ops:List av) (acc:List aW):go P (.bC nm n' (⟨d,.qa e x,none,af⟩::l) ops acc::k) Q n t h=dD P (ax nm t h (.qa e x)) (bP t (.qa e x)) d nm n' l ops acc k Q n t h:=(rfl)
theorem UM (d:Option Nat) (x:Operand) (af:List Nat) (nm n':Nat) (l ops:List av) (acc:List aW):go P (.bC nm n' (⟨d,.jO x,none,af⟩::l) ops acc::k) Q n t h=dD P (ax nm t h (.jO x)) (bP t (.jO x)) d nm n' l ops acc k Q n t h:=(rfl)
theorem UN (d:Option Nat) (f:FuncId) (caps:List Operand) (af:List Nat) (nm n':Nat) (l ops:List av) (acc:List aW):go P (.bC nm n' (⟨d,.mH f caps,none,af⟩::l) ops acc::k) Q n t h=dD P (ax nm t h (.mH f caps)) (bP t (.mH f caps)) d nm n' l ops acc k Q n t h:=(rfl)
theorem UO (d:Option Nat) (af:List Nat) (nm n':Nat) (l ops:List av) (acc:List aW):go P (.bC nm n' (⟨d,.nC,none,af⟩::l) ops acc::k) Q n t h=dD P (ax nm t h (.nC)) (bP t (.nC)) d nm n' l ops acc k Q n t h:=(rfl)
theorem UQ (d:Option Nat) (z:Value) (m x:Operand) (af:List Nat) (nm n':Nat) (l ops:List av) (acc:List aW):go P (.bC nm n' (⟨d,.look z m x,none,af⟩::l) ops acc::k) Q n t h=dD P (ax nm t h (.look z m x)) (bP t (.look z m x)) d nm n' l ops acc k Q n t h:=(rfl)
theorem UR (d:Option Nat) (m x y:Operand) (af:List Nat) (nm n':Nat) (l ops:List av) (acc:List aW):go P (.bC nm n' (⟨d,.jy m x y,none,af⟩::l) ops acc::k) Q n t h=dD P (ax nm t h (.jy m x y)) (bP t (.jy m x y)) d nm n' l ops acc k Q n t h:=(rfl)
theorem UU (d:Option Nat) (e:TypeId) (sz bytes:Nat) (zs:List Value) (a c:Operand) (af:List Nat) (nm n':Nat) (l ops:List av) (acc:List aW):go P (.bC nm n' (⟨d,.ku e sz bytes zs a c,none,af⟩::l) ops acc::k) Q n t h=dD P (ax nm t h (.ku e sz bytes zs a c)) (bP t (.ku e sz bytes zs a c)) d nm n' l ops acc k Q n t h:=(rfl)
theorem UW (d:Option Nat) (sz:Nat) (x:Operand) (lo hi mx:Option Operand) (af:List Nat) (nm n':Nat) (l ops:List av) (acc:List aW):go P (.bC nm n' (⟨d,.slice sz x lo hi mx,none,af⟩::l) ops acc::k) Q n t h=dD P (ax nm t h (.slice sz x lo hi mx)) (bP t (.slice sz x lo hi mx)) d nm n' l ops acc k Q n t h:=(rfl)
theorem UX (d:Option Nat) (x:Operand) (lo hi:Option Operand) (af:List Nat) (nm n':Nat) (l ops:List av) (acc:List aW):go P (.bC nm n' (⟨d,.jP x lo hi,none,af⟩::l) ops acc::k) Q n t h=dD P (ax nm t h (.jP x lo hi)) (bP t (.jP x lo hi)) d nm n' l ops acc k Q n t h:=(rfl)
theorem UY (d:Option Nat) (off:Nat) (x:Operand) (af:List Nat) (nm n':Nat) (l ops:List av) (acc:List aW):go P (.bC nm n' (⟨d,.jo off x,none,af⟩::l) ops acc::k) Q n t h=dD P (ax nm t h (.jo off x)) (bP t (.jo off x)) d nm n' l ops acc k Q n t h:=(rfl)
theorem UZ (d:Option Nat) (ag:Bool) (off sz:Nat) (x:Operand) (af:List Nat) (nm n':Nat) (l ops:List av) (acc:List aW):go P (.bC nm n' (⟨d,.mI ag off sz x,none,af⟩::l) ops acc::k) Q n t h=dD P (ax nm t h (.mI ag off sz x)) (bP t (.mI ag off sz x)) d nm n' l ops acc k Q n t h:=(rfl)
theorem U3 (d:Option Nat) (sz:Nat) (x i:Operand) (af:List Nat) (nm n':Nat) (l ops:List av) (acc:List aW):go P (.bC nm n' (⟨d,.jA sz x i,none,af⟩::l) ops acc::k) Q n t h=dD P (ax nm t h (.jA sz x i)) (bP t (.jA sz x i)) d nm n' l ops acc k Q n t h:=(rfl)
theorem U4 (d:Option Nat) (len sz:Nat) (x i:Operand) (af:List Nat) (nm n':Nat) (l ops:List av) (acc:List aW):go P (.bC nm n' (⟨d,.kz len sz x i,none,af⟩::l) ops acc::k) Q n t h=dD P (ax nm t h (.kz len sz x i)) (bP t (.kz len sz x i)) d nm n' l ops acc k Q n t h:=(rfl)
theorem U5 (d:Option Nat) (ag:Bool) (len sz:Nat) (x i:Operand) (af:List Nat) (nm n':Nat) (l ops:List av) (acc:List aW):go P (.bC nm n' (⟨d,.idx ag len sz x i,none,af⟩::l) ops acc::k) Q n t h=dD P (ax nm t h (.idx ag len sz x i)) (bP t (.idx ag len sz x i)) d nm n' l ops acc k Q n t h:=(rfl)
theorem U6 (d:Option Nat) (x i:Operand) (af:List Nat) (nm n':Nat) (l ops:List av) (acc:List aW):go P (.bC nm n' (⟨d,.idxs x i,none,af⟩::l) ops acc::k) Q n t h=dD P (ax nm t h (.idxs x i)) (bP t (.idxs x i)) d nm n' l ops acc k Q n t h:=(rfl)
theorem U7 (d:Option Nat) (x:Operand) (af:List Nat) (nm n':Nat) (l ops:List av) (acc:List aW):go P (.bC nm n' (⟨d,.len x,none,af⟩::l) ops acc::k) Q n t h=dD P (ax nm t h (.len x)) (bP t (.len x)) d nm n' l ops acc k Q n t h:=(rfl)
theorem U8 (d:Option Nat) (x:Operand) (af:List Nat) (nm n':Nat) (l ops:List av) (acc:List aW):go P (.bC nm n' (⟨d,.cap x,none,af⟩::l) ops acc::k) Q n t h=dD P (ax nm t h (.cap x)) (bP t (.cap x)) d nm n' l ops acc k Q n t h:=(rfl)
theorem U9 (d:Option Nat) (e:TypeId) (sz bytes:Nat) (zs:List Value) (x y:Operand) (af:List Nat) (nm n':Nat) (l ops:List av) (acc:List aW):go P (.bC nm n' (⟨d,.app e sz bytes zs x y,none,af⟩::l) ops acc::k) Q n t h=dD P (ax nm t h (.app e sz bytes zs x y)) (bP t (.app e sz bytes zs x y)) d nm n' l ops acc k Q n t h:=(rfl)
theorem Va (d:Option Nat) (sz:Nat) (zs:List Value) (x:Operand) (af:List Nat) (nm n':Nat) (l ops:List av) (acc:List aW):go P (.bC nm n' (⟨d,.kD sz zs x,none,af⟩::l) ops acc::k) Q n t h=dD P (ax nm t h (.kD sz zs x)) (bP t (.kD sz zs x)) d nm n' l ops acc k Q n t h:=(rfl)
theorem Vb (d:Option Nat) (sz:Nat) (x y:Operand) (af:List Nat) (nm n':Nat) (l ops:List av) (acc:List aW):go P (.bC nm n' (⟨d,.copy sz x y,none,af⟩::l) ops acc::k) Q n t h=dD P (ax nm t h (.copy sz x y)) (bP t (.copy sz x y)) d nm n' l ops acc k Q n t h:=(rfl)
theorem Vd (d:Option Nat) (i:Nat) (x:Operand) (af:List Nat) (nm n':Nat) (l ops:List av) (acc:List aW):go P (.bC nm n' (⟨d,.ext i x,none,af⟩::l) ops acc::k) Q n t h=dD P (ax nm t h (.ext i x)) (bP t (.ext i x)) d nm n' l ops acc k Q n t h:=(rfl)
theorem Ve (d:Option Nat) (mx:Bool) (xs:List Operand) (af:List Nat) (nm n':Nat) (l ops:List av) (acc:List aW):go P (.bC nm n' (⟨d,.lK mx xs,none,af⟩::l) ops acc::k) Q n t h=dD P (ax nm t h (.lK mx xs)) (bP t (.lK mx xs)) d nm n' l ops acc k Q n t h:=(rfl)
theorem Vf (d:Option Nat) (e:TypeId) (sz bytes:Nat) (zs:List Value) (x y:Operand) (af:List Nat) (nm n':Nat) (l ops:List av) (acc:List aW):go P (.bC nm n' (⟨d,.kC e sz bytes zs x y,none,af⟩::l) ops acc::k) Q n t h=dD P (ax nm t h (.kC e sz bytes zs x y)) (bP t (.kC e sz bytes zs x y)) d nm n' l ops acc k Q n t h:=(rfl)
theorem Vg (d:Option Nat) (neg:Bool) (x y:Operand) (af:List Nat) (nm n':Nat) (l ops:List av) (acc:List aW):go P (.bC nm n' (⟨d,.lJ neg x y,none,af⟩::l) ops acc::k) Q n t h=dD P (ax nm t h (.lJ neg x y)) (bP t (.lJ neg x y)) d nm n' l ops acc k Q n t h:=(rfl)
theorem Vh (d:Option Nat) (x:Operand) (af:List Nat) (nm n':Nat) (l ops:List av) (acc:List aW):go P (.bC nm n' (⟨d,.mJ x,none,af⟩::l) ops acc::k) Q n t h=dD P (ax nm t h (.mJ x)) (bP t (.mJ x)) d nm n' l ops acc k Q n t h:=(rfl)
theorem Vi (id nm n':Nat) (l ops:List av) (acc:List aW):eO P id (.bC nm n' l ops acc::k) Q n t h=eO P id k Q n t h:=(rfl)
theorem Vj (ops:List av):go P (.code (.region ops true)::k) Q n t h=go P (.bC n (n+8*ops.length) ops ops []::k) Q n t h:=by
 simp [go,gJ,fu,zh]
theorem Vk (nm n':Nat) (ops:List av) (acc:List aW):go P (.bC nm n' [] ops acc::k) Q n t h=(nG ops acc.reverse=true/\go P k Q n' t h):=(rfl)
theorem Vl (e:E) (rd:List Nat) (d:Option Nat) (nm n':Nat) (l ops:List av) (acc:List aW):
 dD P (some e) rd d nm n' l ops acc k Q n t h=(e.pre/\go P (.bC (nm+8) n' l ops ((rd,e.upd.map Prod.fst)::acc)::k) Q n (aV t d e.val) (e.upd++h)):=(rfl)
theorem Vm (d:Option Nat) (f:Operand) (args:List Operand) (af:List Nat) (nm n':Nat) (l ops:List av) (acc:List aW):
 go P (.bC nm n' (⟨d,.call f args,none,af⟩::l) ops acc::k) Q n t h=Kz P (ev t f) (iO t args) d nm n' l ops acc k Q n t h:=(rfl)
theorem Vn (g:FuncId) (caps xs:List AV) (d:Option Nat) (nm n':Nat) (l ops:List av) (acc:List aW):
 Kz P (some (.fn g caps)) (some xs) d nm n' l ops acc k Q n t h=if g<1000000 then qw P nm g (xs++caps) d n' l ops acc k Q n t h else if g<2000000 then qw P nm (g - 1000000) (caps++xs) d n' l ops acc k Q n t h else False:=(rfl)
theorem Vo (d:Option Nat) (neg:Bool) (x:Operand) (af:List Nat) (nm n':Nat) (l ops:List av) (acc:List aW):
 go P (.bC nm n' (⟨d,.jw neg x,none,af⟩::l) ops acc::k) Q n t h=KA P (qc (ev t x)) neg d nm n' l ops acc k Q n t h:=(rfl)
theorem Vp (b neg:Bool) (d:Option Nat) (nm n':Nat) (l ops:List av) (acc:List aW):KA P (some (some b)) neg d nm n' l ops acc k Q n t h=
 go P (.bC (nm+8) n' l ops (([],[])::acc)::k) Q n (aV t d (.v (.bool (if neg then !b else b)))) h:=(rfl)
theorem Vq (d:Option Nat) (op:dZ) (g:Nat) (w:Bool) (af:List Nat) (nm n':Nat) (l ops:List av) (acc:List aW):
 go P (.bC nm n' (⟨d,op,some (g,w),af⟩::l) ops acc::k) Q n t h=kP P (get t g) ⟨d,op,none,af⟩ w nm n' l ops acc k Q n t h:=by
 cases w<;>rfl
theorem Vr (o:av) (w:Bool) (nm n':Nat) (l ops:List av) (acc:List aW):
 kP P (some (.v undef)) o w nm n' l ops acc k Q n t h=go P (.bC (nm+8) n' l ops (([],[])::acc)::k) Q n (aV t o.dst (.v undef)) h:=(rfl)
theorem Vs (o:av) (nm n':Nat) (l ops:List av) (acc:List aW):
 kP P (some (.v (.bool true))) o true nm n' l ops acc k Q n t h=go P (.bC nm n' ({o with guard:=none}::l) ops acc::k) Q n t h:=by simp [kP,lM,wo]
theorem Vt (o:av) (nm n':Nat) (l ops:List av) (acc:List aW):
 kP P (some (.v (.bool true))) o false nm n' l ops acc k Q n t h=go P (.bC (nm+8) n' l ops (([],[])::acc)::k) Q n (aV t o.dst (.v undef)) h:=by simp [kP,lM,wo]
theorem Vu (o:av) (nm n':Nat) (l ops:List av) (acc:List aW):
 kP P (some (.v (.bool false))) o true nm n' l ops acc k Q n t h=go P (.bC (nm+8) n' l ops (([],[])::acc)::k) Q n (aV t o.dst (.v undef)) h:=by simp [kP,lM,wu]
theorem Vv (o:av) (nm n':Nat) (l ops:List av) (acc:List aW):
 kP P (some (.v (.bool false))) o false nm n' l ops acc k Q n t h=go P (.bC nm n' ({o with guard:=none}::l) ops acc::k) Q n t h:=by simp [kP,lM,wu]
theorem jE {b:Bool} {o:av} {w:Bool} {nm n':Nat} {l ops:List av} {acc:List aW}
 (h1:b=true->kP P (some (.v (.bool true))) o w nm n' l ops acc k Q n t h) (h2:b=false->kP P (some (.v (.bool false))) o w nm n' l ops acc k Q n t h):
 kP P (some (.v (.bool b))) o w nm n' l ops acc k Q n t h:=by
 cases b
 ·exact h2 rfl
 ·exact h1 rfl
theorem uV {f:FuncId} {args:List AV} {r:Rec} {d:Option Nat} {nm n':Nat} {l:List av} (hc:iR P nm f args h r) (hk:go P (.ops (nm+8) n' l::k) Q n (aV t d r.val) (r.upd++h)):
 lQ P nm f args d n' l k Q n t h:=hc h (fun _ _=>rfl) _ hk
theorem KC {f:FuncId} {args:List AV} {r:Rec} {d:Option Nat} {nm n':Nat} {l ops:List av} {acc:List aW} (hc:iR P nm f args h r)
 (hk:go P (.bC (nm+8) n' l ops ((r.rd,r.upd.map Prod.fst)::acc)::k) Q n (aV t d r.val) (r.upd++h)):qw P nm f args d n' l ops acc k Q n t h:=⟨r,hc,hk⟩
theorem go_loop {c:cK} {α:Type} (S:α->St) (μ:α->Nat) (a0:α) (hw:Wk ⟨n,t,h⟩ (S a0))
 (hb:∀ a (B:St->Prop),(∀ s' a',μ a'<μ a->Wk s' (S a')->B s')->go P (.code c:: .lp B::k) Q (S a).n (S a).t (S a).h):
 go P (.code (.loop c)::k) Q n t h:=by
 refine ⟨α,S,μ,a0,hw,fun a=> ?_⟩
 have:=hb a (fun s'=>∃ a',μ a'<μ a/\Wk s' (S a')) (fun s' a' h1 h2=>⟨a',h1,h2⟩)
 simp only [go,gJ] at this
 have e:(Co (fun s'=>∃ a',μ a'<μ a/\Wk s' (S a')) (fun e s'=>match e with
  | .normal=>gJ P Q k s'
  | .exit id=>gJ.eO P Q id k s'
  |e=>Q e s'))=(fun e s'=>match e with
  | .normal=>∃ a',μ a'<μ a/\Wk s' (S a')
  | .exit id=>gJ.eO P Q id (.lp (fun s'=>∃ a',μ a'<μ a/\Wk s' (S a'))::k) s'
  |e=>Q e s'):=by
  funext e s'
  cases e<;>rfl
 rw [e]
 exact this
end eqs
end Go.Eng
namespace Go.Eng
open Go
def rowOk:Ob->Bool
 | .row _ _ _=>true
 | .box cs=>bf cs
 |_=>false
def qx:Ob->Prop
 | .row _ _ xs=>∀ x ∈ xs,∀ c ∈ x,na c=true
 | .box cs=>∀ c ∈ cs,na c=true
 |_=>False
theorem dO.Vw {w:World} {ok ok':Nat->Prop} {ρ ρ':Nat->Loc} {U U':Nat->Prop} {l:Loc} {o:Ob} (hr:rowOk o=true) (hok:(∀ g,ok g->ok' g)\/qx o)
 (ho:dO w ok ρ U l o):dO w ok' ρ' U' l o:=by
 cases o with
 |row e sz xs=>
  rcases ho with ho|⟨g,o,n,cells,h1,h2,h3,h4,h5,h6⟩
  ·exact .inl ho
  ·refine .inr ⟨g,o,n,cells,h1,h2,h3,h4,h5,fun k x j c hk hj=> ?_⟩
   obtain ⟨u,hu,h1c,hv⟩:=h6 k x j c hk hj
   rcases hok with hok|hok
   ·exact ⟨u,hu,h1c,hv.mono hok (fun _ _=>rfl)⟩
   ·exact ⟨u,hu,h1c,hv.na (hok x (List.mem_of_getElem? hk) c (List.mem_of_getElem? hj))⟩
 |box cs=>
  obtain ⟨g,o,n,e,cells,h1,h2,h3,h4,h5⟩:=ho
  refine ⟨g,o,n,e,cells,h1,h2,h3,h4,fun j c hj=> ?_⟩
  obtain ⟨u,hu,hv⟩:=h5 j c hj
  have hp:=VP.uF hv (wF cs hr j c hj)
  rcases hok with hok|hok
  ·exact ⟨u,hu,.p (hp.mono hok (fun _ _=>rfl))⟩
  ·exact ⟨u,hu,.p (hp.na (hok c (List.mem_of_getElem? hj)))⟩
 |_=>simp [rowOk] at hr
def gK (B:List Nat):List AV->List AV->Prop
 |[],[]=>True
 |x::l,y::l'=>(match x with
  | .ptr i j=>match B[i]? with
   |some b=>y= .ptr b j
   |none=>False
  |x=>x=y/\x.pure=true)/\gK B l l'
 |_,_=>False
theorem zL {B:List Nat}:∀ (xs ys:List AV),gK B xs ys->xs.length=ys.length/\∀ (i:Nat) (x:AV),xs[i]? =some x->∃ y,ys[i]? =some y/\
 ((∃ k j b,x= .ptr k j/\B[k]? =some b/\y= .ptr b j)\/(x=y/\x.pure=true))
 |[],[],_=>⟨rfl,fun i b h=>by simp at h⟩
 |x::xs,y::ys,h=>by
  simp only [gK] at h
  obtain ⟨h1,h2⟩:=zL xs ys h.2
  refine ⟨by simp [h1],fun i c hc=> ?_⟩
  cases i with
  |zero=>
   simp at hc;subst hc
   refine ⟨y,rfl,?_⟩
   obtain ⟨h3,_⟩:=h
   split at h3
   ·rename_i k j
    split at h3
    ·rename_i b hb;exact .inl ⟨k,j,b,rfl,hb,h3⟩
    ·exact h3.elim
   ·exact .inr h3
  |succ i=>simpa using h2 i c (by simpa using hc)
 |[],_::_,h=>by simp [gK] at h
 |_::_,[],h=>by simp [gK] at h
section
variable {C C':Ctx} {ρ ρ1:Nat->Loc} {U U1:Nat->Prop} {h:List (Nat×Ob)} {w w':World} {B:List Nat} {bs':List (List AV)} {es:List Ob} {nm:Nat}
def fA (ρ ρ1:Nat->Loc) (nm m:Nat) (k:Nat):Loc:=if nm<=k/\k<nm+m then ρ1 (4+(k - nm)) else ρ k
def uW (U:Nat->Prop) (nm m:Nat) (k:Nat):Prop:=U k\/(nm<=k/\k<nm+m)
theorem Dt {w:World} {ok:Nat->Prop} {ρ:Nat->Loc} {U:Nat->Prop} {x:AV} {u:Value} (h:VR w ok ρ U x u):x.pure=true->VP w ok x u:=VP.uF h
theorem back (hr:HR C ρ U h w) (hw0:C'.w0=w) (hext:∀ g,C'.ext g↔∃ b ∈ B,∃ o n,ρ b= .at g o n) (hloc:∀ i,C'.loc i=(B[i]?).map ρ)
 (hr':HR C' ρ1 U1 (outs bs' es) w') (hB:∀ b ∈ B,∃ cs,get h b=some (.box cs)) (hlen:bs'.length=B.length) (hB4:B.length<=4) (hes:es.all rowOk=true)
 (hm:es.length<=8) {cs:List (List AV)} (hlc:bs'.length=cs.length) (hrel:∀ (i:Nat) (c:List AV),cs[i]? =some c->∃ x,bs'[i]? =some x/\gK B x c) (hfr:∀ b,U b->¬ (nm<=b/\b<nm+8))
 (hgv:∀ g,¬ C'.wm g) (jf:(∀ g,ay C' ρ1 w' g->ay C (fA ρ ρ1 nm es.length) w' g)\/(bs'=[]/\∀ o ∈ es,qx o)):
 HR C (fA ρ ρ1 nm es.length) (uW U nm es.length) (bS nm es++(eH B cs++h)) w'/\
  ∀ x u,VR w (ay C ρ w) ρ U x u->VR w' (ay C (fA ρ ρ1 nm es.length) w') (fA ρ ρ1 nm es.length) (uW U nm es.length) x u:=by
 have Du:∀ k,U k->fA ρ ρ1 nm es.length k=ρ k:=fun k hk=>by
  unfold fA
  rw [if_neg (fun hh=>hfr k hk ⟨hh.1,by omega⟩)]
 have afY:∀ k g o n,ρ k= .at g o n->U k:=fun k g o n hk=>by
  apply Classical.byContradiction
  intro hn
  rw [hr.Cm hn] at hk;cases hk
 have hcase:∀ k g o n,fA ρ ρ1 nm es.length k= .at g o n->(∃ i,k=nm+i/\i<es.length/\ρ1 (4+i)= .at g o n)\/ρ k= .at g o n:=fun k g o n hk=>by
  unfold fA at hk
  split at hk
  ·rename_i hh
   exact .inl ⟨k - nm,by omega,by omega,hk⟩
  ·exact .inr hk
 have hoff:∀ i g o n,i<es.length->ρ1 (4+i)= .at g o n->w.heap.size<=g/\g<w'.heap.size:=fun i g o n hi hl=>by
  obtain ⟨h1,h2⟩:=hr'.bN g ⟨_,o,n,hl⟩
  refine ⟨?_,h2⟩
  rcases h1 with h1|h1
  ·obtain ⟨b,o',n',hb⟩:=C'.rO g h1
   obtain ⟨h3,_,_⟩:=hr'.fix b _ hb
   have:=hr'.inj (4+i) b g o n o' n' hl h3
   have:=C'.wh b _ hb
   omega
  ·rcases h1 with h1|h1
   ·exact (hgv g h1).elim
   ·rw [hw0] at h1;exact h1
 have hold:∀ k g o n,ρ k= .at g o n->g<w.heap.size:=fun k g o n hl=>(hr.bN g ⟨k,o,n,hl⟩).2
 have hsz:w.heap.size<=w'.heap.size:=by have:=hr'.size;rw [hw0] at this;exact this
 have hheap:∀ g,g<w.heap.size->(∀ b ∈ B,∀ o n,ρ b≠.at g o n)->w'.heap[g]? =w.heap[g]? :=fun g hg hb=>by
  have:=hr'.old g (by rw [hw0];exact hg) (fun he=>by
   obtain ⟨b,fB,o,n,hl⟩:=(hext g).1 he
   exact hb b fB o n hl) (hgv g)
  rw [hw0] at this;exact this
 have hown:∀ g,gX (fA ρ ρ1 nm es.length) g->gX ρ g\/(w.heap.size<=g/\g<w'.heap.size/\∃ i o n,i<es.length/\ρ1 (4+i)= .at g o n):=fun g ⟨k,o,n,hk⟩=>by
  rcases hcase k g o n hk with ⟨i,rfl,hi,hl⟩|hl
  ·have:=hoff i g o n hi hl
   exact .inr ⟨this.1,this.2,i,o,n,hi,hl⟩
  ·exact .inl ⟨k,o,n,hl⟩
 have hok:∀ g,ay C ρ w g->ay C (fA ρ ρ1 nm es.length) w' g:=fun g hg=>⟨hg.1,by have:=hg.2.1;omega,fun ho=>by
  rcases hown g ho with ho|ho
  ·exact hg.2.2 ho
  ·have:=hg.2.1;omega⟩
 have qy:∀ g,ay C ρ w g->w'.heap[g]? =w.heap[g]? :=fun g hg=>hheap g hg.2.1 fun b _ o n hl=>hg.2.2 ⟨b,o,n,hl⟩
 have lS:Later U ρ (fA ρ ρ1 nm es.length):=fun k hk=> .inl (Du k hk)
 have KD:∀ k,U k->uW U nm es.length k:=fun k hk=> .inl hk
 refine ⟨⟨fun k o hk=> ?_,fun k hk=> ?_,fun k k' g o n o' n' h1 h2=> ?_,hr'.os.trans (by rw [hw0];exact hr.os),hr'.tape.trans (by rw [hw0];exact hr.tape),
  hr'.output.trans (by rw [hw0];exact hr.output),Nat.le_trans hr.size hsz,fun g hg he hv=> ?_,hr.jb,fun g ho=> ?_,fun b l hb=> ?_⟩,
  fun x u hx=>hx.mono hok qy KD lS⟩
 ·
  rw [get_append,gH] at hk
  by_cases hin:nm<=k/\k<nm+es.length
  ·have hi:k - nm<es.length:=by omega
   rw [if_pos hin.1,List.getElem?_eq_getElem hi] at hk
   cases hk
   refine ⟨.inr hin,?_⟩
   have e:fA ρ ρ1 nm es.length k=ρ1 (4+(k - nm)):=by unfold fA;rw [if_pos hin]
   rw [e]
   have hg:get (outs bs' es) (4+(k - nm))=some es[k - nm]:=zI (by omega) (List.getElem?_eq_getElem hi)
   obtain ⟨_,ho⟩:=hr'.hp _ _ hg
   have hro:=List.all_eq_true.1 hes es[k - nm] (List.getElem_mem hi)
   refine dO.Vw hro ?_ ho
   rcases jf with jf|jf
   ·exact .inl jf
   ·exact .inr (jf.2 _ (List.getElem_mem hi))
  ·have hno:(if nm<=k then es[k - nm]? else none)=none:=by
    split
    ·exact List.getElem?_eq_none (by omega)
    ·rfl
   rw [hno] at hk
   simp only [get_append] at hk
   have e:fA ρ ρ1 nm es.length k=ρ k:=by unfold fA;rw [if_neg hin]
   rw [e]
   cases hbx:get (eH B cs) k with
   |some o'=>
    rw [hbx] at hk;cases hk
    obtain ⟨i,c2,h1,h2,rfl⟩:=si B cs k _ hbx
    obtain ⟨cs0,hb0⟩:=hB k (List.mem_of_getElem? h1)
    have oK:=(hr.hp k _ hb0).1
    refine ⟨.inl oK,?_⟩
    obtain ⟨c1,hc1,hrl⟩:=hrel i c2 h2
    have hg:get (outs bs' es) i=some (.box c1):=uU hc1
    obtain ⟨_,ho⟩:=hr'.hp i _ hg
    have hl:=(hr'.fix i (ρ k) (by rw [hloc,h1];rfl)).1
    rw [hl] at ho
    obtain ⟨g,o,n,e,cells,h3,h4,h5,h6,h7⟩:=ho
    obtain ⟨hal,hag⟩:=zL c1 c2 hrl
    refine ⟨g,o,n,e,cells,h3,h4,h5,by omega,fun j c hj=> ?_⟩
    obtain ⟨x,hx⟩:∃ x,c1[j]? =some x:=⟨_,List.getElem?_eq_getElem (by rw [hal];exact (List.getElem?_eq_some_iff.1 hj).1)⟩
    obtain ⟨y,hy,hxy⟩:=hag j x hx
    rw [hj] at hy;cases hy
    obtain ⟨u,hu,hv⟩:=h7 j x hx
    refine ⟨u,hu,?_⟩
    rcases hxy with ⟨k',j',b,rfl,hk',rfl⟩|⟨rfl,hp⟩
    ·obtain ⟨_,a,rfl,had⟩:=hv.mG
     obtain ⟨csb,hbb⟩:=hB b (List.mem_of_getElem? hk')
     have KE:=(hr.hp b _ hbb).1
     have hlb:=(hr'.fix k' (ρ b) (by rw [hloc,hk'];rfl)).1
     refine .ptr a (.inl KE) ?_
     rw [Du b KE,<-hlb]
     exact had
    ·rcases jf with jf|jf
     ·exact .p ((Dt hv hp).mono jf (fun _ _=>rfl))
     ·rw [jf.1] at hc1;simp at hc1
   |none=>
    rw [hbx] at hk
    simp only at hk
    obtain ⟨oK,ho⟩:=hr.hp k o hk
    refine ⟨.inl oK,dO.mono hok qy KD lS (fun g o n hl=>hheap g (hold k g o n hl) fun b hb o' n' hb'=> ?_) ho⟩
    have:=hr.inj k b g o n o' n' hl hb'
    subst this
    exact zJ B cs k hbx (hlen.symm.trans hlc) hb
 ·rw [get_append,gH] at hk
  have hin:¬ (nm<=k/\k<nm+es.length):=fun hh=>by
   rw [if_pos hh.1,List.getElem?_eq_getElem (show k - nm<es.length by omega)] at hk
   cases hk
  have hno:(if nm<=k then es[k - nm]? else none)=none:=by
   split
   ·exact List.getElem?_eq_none (by omega)
   ·rfl
  rw [hno] at hk
  simp only [get_append] at hk
  unfold fA
  rw [if_neg hin]
  cases hbx:get (eH B cs) k with
  |some o'=>rw [hbx] at hk;cases hk
  |none=>rw [hbx] at hk;exact hr.hd k hk
 ·rcases hcase k g o n h1 with ⟨i,rfl,hi,hl⟩|hl<;>rcases hcase k' g o' n' h2 with ⟨i',rfl,hi',hl'⟩|hl'
  ·have:=hr'.inj _ _ g o n o' n' hl hl'
   omega
  ·have:=hoff i g o n hi hl
   have:=hold _ g o' n' hl'
   omega
  ·have:=hoff i' g o' n' hi' hl'
   have:=hold _ g o n hl
   omega
  ·exact hr.inj _ _ g o n o' n' hl hl'
 ·have hg':g<w.heap.size:=Nat.lt_of_lt_of_le hg hr.size
  rw [<-hr.old g hg he hv]
  refine hheap g hg' fun b hb o n hl=> ?_
  rcases (hr.bN g ⟨b,o,n,hl⟩).1 with h1|h1
  ·exact he h1
  ·rcases h1 with h1|h1
   ·exact hv h1
   ·omega
 ·rcases hown g ho with ho|ho
  ·exact ⟨(hr.bN g ho).1,by have:=(hr.bN g ho).2;omega⟩
  ·exact ⟨.inr (.inr (by have:=hr.size;omega)),ho.2.1⟩
 ·obtain ⟨h1,h2,cs0,h3⟩:=hr.fix b l hb
  refine ⟨by rw [Du b h2];exact h1,.inl h2,?_⟩
  have hin:¬ (nm<=b/\b<nm+es.length):=fun hh=>hfr b h2 ⟨hh.1,by omega⟩
  have hno:(if nm<=b then es[b - nm]? else none)=none:=by
   split
   ·exact List.getElem?_eq_none (by omega)
   ·rfl
  rw [get_append,gH,hno]
  simp only [get_append]
  cases hbx:get (eH B cs) b with
  |some o'=>
   obtain ⟨i,cs',_,_,rfl⟩:=si B cs b _ hbx
   exact ⟨cs',rfl⟩
  |none=>exact ⟨cs0,h3⟩
def Fn (P:Program) (f:FuncId) (xs:List AV) (bs:List (List AV)) (r:AV) (bs':List (List AV)) (es:List Ob):Prop:=
 Enters P f/\∀ (C:Ctx) (ρ:Nat->Loc) (U:Nat->Prop) (w:World) (vals:Array Value),HR C ρ U (dM 0 bs) w->(∀ b,U b->b<4)->VL w (ay C ρ w) ρ U xs vals->
  Calls P f vals w fun e w'=>∃ v ρ' U',e= .returned v/\HR C ρ' U' (outs bs' es) w'/\VR w' (ay C ρ' w') ρ' U' r v
structure aF (P:Program) (f:FuncId) (sc:cK) (res:List gY) (nt:Nat):Prop where
 fn:∃ fn c,P.funcs[f]? =some fn/\(fn.name== "runtime.NumGoroutine")=false/\fn.body=some c/\fG P c=some sc/\qp P fn.results.toList=some res/\
  fn.results.toList.length<=5/\fn.ntmps=nt
 ok:iH nt sc=true
 mixed:P.follows .mixedOrders=true
def lT:Nat->List AV->List (Nat×AV)
 |_,[]=>[]
 |k,x::l=>(k,x)::lT (k+1) l
theorem zN:∀ (l:List AV) (k j:Nat),get (lT k l) j=if k<=j then l[j - k]? else none
 |[],k,j=>by simp [lT]
 |o::l,k,j=>by
  simp only [lT,get]
  by_cases e:k=j
  ·subst e;simp
  ·rw [if_neg e,zN l (k+1) j]
   by_cases h:k<=j
   ·rw [if_pos h,if_pos (show k+1<=j by omega)]
    have:j - k=(j - (k+1))+1:=by omega
    rw [this,List.getElem?_cons_succ]
   ·rw [if_neg h,if_neg (by omega)]
def Fin (res:List gY) (r:AV) (bs':List (List AV)) (es:List Ob) (t:List (Nat×AV)) (h:List (Nat×Ob)):Prop:=
 ∃ S N xs,gZ t h res=some xs/\fw h S N (outs bs' es)=true/\bq h S N (outs bs' es) S/\gG (outs bs' es) N/\rv h S N r (aD xs)
def zO (res:List gY) (r:AV) (bs':List (List AV)) (es:List Ob):Exit->St->Prop
 | .normal,s=>Fin res r bs' es s.t s.h
 | .ret,s=>Fin res r bs' es s.t s.h
 |_,_=>False
theorem Fn.aB {P:Program} {f:FuncId} {sc:cK} {res:List gY} {nt:Nat} (hok:aF P f sc res nt) {xs:List AV} {bs:List (List AV)} {r:AV} {bs':List (List AV)} {es:List Ob}
 (hn:xs.length<=nt) (hgo:go P [.code sc] (zO res r bs' es) 8 (lT 0 xs) (dM 0 bs)):Fn P f xs bs r bs' es:=by
 obtain ⟨⟨fn,c,hf,hnm,hb,hs,hres,hr4,rfl⟩,hoc,hm⟩:=hok
 refine ⟨⟨fn,hf,hnm,by rw [hb];rfl⟩,fun C ρ U w vals hr hU hv=> ?_⟩
 let C1:Ctx:={C with nt:=fn.ntmps}
 have hr1:HR C1 ρ U (dM 0 bs) w:=⟨hr.hp,hr.hd,hr.inj,hr.os,hr.tape,hr.output,hr.size,hr.old,hr.jb,hr.bN,hr.fix⟩
 refine calls_of_wp hf hb (rX (C:=C1) hm c sc hs hoc _ _ ⟨8,lT 0 xs,dM 0 bs⟩ _ w ⟨ρ,U,⟨hr1,fun k x hk=> ?_,rfl,?_⟩,fun b hb=>by have:=hU b hb;simp only;omega⟩ hgo fun e s a w' hA hQ=> ?_)
 ·rw [zN] at hk
  simp only [Nat.zero_le,if_true,Nat.sub_zero] at hk
  have hlt:k<vals.size:=by rw [<-hv.1];exact (List.getElem?_eq_some_iff.1 hk).1
  refine ⟨vals[k],?_,hv.2 k x _ hk (Array.getElem?_eq_getElem hlt)⟩
  simp [Array.getElem?_append,hlt]
 ·have:=hv.1
  simp only [Array.size_append,Array.size_replicate]
  show _=fn.ntmps
  omega
 ·have fin:Fin res r bs' es s.t s.h->a.defers=[]/\∃ v,(results fn a.tmps).run P w'= .ok v w'/\∃ v_1 ρ' U',Ending.returned v=Ending.returned v_1/\HR C ρ' U' (outs bs' es) w'/\VR w' (ay C ρ' w') ρ' U' r v_1:=fun hF=>by
   obtain ⟨S,N,ys,h1,h2,h3,h4,h5⟩:=hF
   obtain ⟨ρ1,U1,hS,_⟩:=hA
   obtain ⟨vs,h6,h7,h8,h9⟩:=wT (P:=P) hS.hr hS.tm fn.results.toList res ys hres h1
   refine ⟨hS.defers,_,Dk a.tmps w' rfl h6 hr4 h8,_,bK ρ1 S N,iK S N,rfl,?_,?_⟩
   ·have:=uR hS.hr h2 h3 h4
    exact ⟨this.hp,this.hd,this.inj,this.os,this.tape,this.output,this.size,this.old,this.jb,this.bN,this.fix⟩
   ·exact jC hS.hr (Dl (by omega) h9) r h5
  cases e with
  |normal=>exact fin hQ
  |ret=>exact fin hQ
  |exit i=>exact hQ.elim
  |goto l=>exact hQ.elim
  |panic ch=>exact hQ.elim
  |outgrown=>exact hQ.elim
end
end Go.Eng
namespace Go.Eng
open Go
def mU (h:List (Nat×Ob)) (A:List Nat):List Nat->List (List AV)->Prop
 |[],[]=>True
 |b::B,cs::bs=>(match get h b with
  |some (.box cs')=>gK A cs cs'
  |_=>False)/\mU h A B bs
 |_,_=>False
def mV (A:List Nat):List (List AV)->List (List AV)->Prop
 |[],[]=>True
 |x::l,y::l'=>gK A x y/\mV A l l'
 |_,_=>False
theorem Dv {A:List Nat}:∀ (xs ys:List (List AV)),mV A xs ys->xs.length=ys.length/\∀ (i:Nat) (y:List AV),ys[i]? =some y->∃ x,xs[i]? =some x/\gK A x y
 |[],[],_=>⟨rfl,fun i b h=>by simp at h⟩
 |x::xs,y::ys,h=>by
  simp only [mV] at h
  obtain ⟨h1,h2⟩:=Dv xs ys h.2
  refine ⟨by simp [h1],fun i c hc=> ?_⟩
  cases i with
  |zero=>simp at hc;subst hc;exact ⟨x,rfl,h.1⟩
  |succ i=>simpa using h2 i c (by simpa using hc)
 |[],_::_,h=>by simp [mV] at h
 |_::_,[],h=>by simp [mV] at h
def uX:List (List AV)->Bool
 |[]=>true
 |cs::l=>bf cs&&uX l
theorem KF {h:List (Nat×Ob)} {A:List Nat}:∀ (B:List Nat) (bs:List (List AV)),mU h A B bs->B.length=bs.length/\∀ (i b:Nat),B[i]? =some b->∃ cs cs',bs[i]? =some cs/\get h b=some (.box cs')/\gK A cs cs'
 |[],[],_=>⟨rfl,fun i b h=>by simp at h⟩
 |b::B,cs::bs,h=>by
  simp only [mU] at h
  obtain ⟨h1,h2⟩:=KF B bs h.2
  refine ⟨by simp [h1],fun i c hc=> ?_⟩
  cases i with
  |zero=>
   simp at hc;subst hc
   obtain ⟨h3,_⟩:=h
   split at h3
   ·rename_i cs' hg;exact ⟨cs,cs',rfl,hg,h3⟩
   ·exact h3.elim
  |succ i=>simpa using h2 i c (by simpa using hc)
 |[],_::_,h=>by simp [mU] at h
 |_::_,[],h=>by simp [mU] at h
section
variable {P:Program} {f:FuncId} {xs ys:List AV} {bs bs':List (List AV)} {r:AV} {es:List Ob} {nm:Nat} {h:List (Nat×Ob)} {B:List Nat}
def kQ (ρ:Nat->Loc) (B:List Nat) (i:Nat):Loc:=match B[i]? with
 |some b=>ρ b
 |none=> .dead
theorem Fn.sG (hF:Fn P f xs bs r bs' es) (nm:Nat) (B:List Nat) (cs':List (List AV)) (ha:gK B xs ys) (hb:mU h B B bs) (hB4:B.length<=4) (hnd:B.Nodup) (hlen:bs'.length=B.length) (hp:mV B bs' cs')
 (hes:es.all rowOk=true) (hm:es.length<=8) (hx:bZ es.length r=true):
 iR P nm f ys h ⟨sh nm r,bS nm es++eH B cs',B⟩:=by
 intro h' hh' Q hQ
 refine ⟨hF.1,fun C ρ U w vals hr hfr hvl=> ?_⟩
 obtain ⟨hl,hb'⟩:=KF B bs hb
 have hbx:∀ (i b:Nat),B[i]? =some b->∃ cs cs',bs[i]? =some cs/\get h' b=some (.box cs')/\gK B cs cs':=fun i b hib=>by
  obtain ⟨cs,cs',h1,h2,h3⟩:=hb' i b hib
  exact ⟨cs,cs',h1,by rw [hh' b (List.mem_of_getElem? hib)];exact h2,h3⟩
 let C':Ctx:=⟨w,ay C ρ w,(fun g=>∃ b ∈ B,∃ o n,ρ b=Loc.at g o n),(fun i=>(B[i]?).map ρ),0,(fun g hg=>by
  obtain ⟨b,fB,o,n,hl⟩:=hg
  obtain ⟨i,hi⟩:=List.mem_iff_getElem?.1 fB
  exact ⟨i,o,n,by simp [hi,hl]⟩),(fun i l hl=>by
  rcases Nat.lt_or_ge i B.length with h1|h1
  ·omega
  ·simp [List.getElem?_eq_none h1] at hl),(fun _=>False),(fun _ h=>h.elim)⟩
 have hbl:∀ (i b:Nat),B[i]? =some b->kQ ρ B i=ρ b:=fun i b hib=>by simp [kQ,hib]
 have hown:∀ g,gX (kQ ρ B) g->∃ b ∈ B,∃ o n,ρ b= .at g o n:=fun g ⟨i,o,n,hi⟩=>by
  unfold kQ at hi
  split at hi
  ·rename_i b hib;exact ⟨b,List.mem_of_getElem? hib,o,n,hi⟩
  ·cases hi
 have hok:∀ g,ay C ρ w g->ay C' (kQ ρ B) w g:=fun g hg=>⟨.inl hg,hg.2.1,fun ho=>by
  obtain ⟨b,_,o,n,hb⟩:=hown g ho
  exact hg.2.2 ⟨b,o,n,hb⟩⟩
 have hpure:∀ {x:AV} {u:Value},x.pure=true->VR w (ay C ρ w) ρ U x u->VP w (ay C' (kQ ρ B) w) x u:=fun hx hv=>(Dt hv hx).mono hok (fun _ _=>rfl)
 have hr0:HR C' (kQ ρ B) (fun i=>i<B.length) (dM 0 bs) w:=by
  refine ⟨fun i o hi=> ?_,fun i hi=> ?_,fun i i' g o n o' n' h1 h2=> ?_,rfl,rfl,rfl,Nat.le_refl _,fun g _ _ _=>rfl,fun g hg=>⟨hg.2.1,fun ⟨b,_,o,n,hb⟩=>hg.2.2 ⟨b,o,n,hb⟩,fun h=>h⟩,
   fun g ho=> ?_,fun i l hi=> ?_⟩
  ·simp only [dM,gH,Nat.zero_le,if_true,Nat.sub_zero,List.getElem?_map] at hi
   have hlt:i<B.length:=by
    rcases Nat.lt_or_ge i B.length with h1|h1
    ·exact h1
    ·rw [List.getElem?_eq_none (by omega)] at hi;cases hi
   refine ⟨hlt,?_⟩
   have hib:B[i]? =some B[i]:=List.getElem?_eq_getElem hlt
   obtain ⟨cs,cs1,h1,h2,h3⟩:=hbx i _ hib
   rw [h1] at hi
   cases hi
   rw [hbl i _ hib]
   obtain ⟨_,g,o,n,e,cells,h4,h5,h6,h7,h8⟩:=hr.hp _ _ h2
   obtain ⟨hal,hag⟩:=zL cs cs1 h3
   refine ⟨g,o,n,e,cells,h4,h5,h6,by omega,fun j c hj=> ?_⟩
   obtain ⟨y,hy,hxy⟩:=hag j c hj
   obtain ⟨u,hu,hv⟩:=h8 j y hy
   refine ⟨u,hu,?_⟩
   rcases hxy with ⟨k,j',b,rfl,hk,rfl⟩|⟨rfl,hp⟩
   ·obtain ⟨_,a,rfl,had⟩:=hv.mG
    have hlt:k<B.length:=(List.getElem?_eq_some_iff.1 hk).1
    exact .ptr a hlt (by rw [hbl k b hk];exact had)
   ·exact .p (hpure hp hv)
  ·simp only [dM,gH,Nat.zero_le,if_true,Nat.sub_zero,List.getElem?_map] at hi
   have:B[i]? =none:=by
    rcases Nat.lt_or_ge i B.length with h1|h1
    ·rw [List.getElem?_eq_getElem (show i<bs.length by omega)] at hi;cases hi
    ·exact List.getElem?_eq_none h1
   simp [kQ,this]
  ·have key:∀ i g o n,kQ ρ B i= .at g o n->∃ b,B[i]? =some b/\ρ b= .at g o n:=fun i g o n hi=>by
    unfold kQ at hi
    split at hi
    ·rename_i b hib;exact ⟨b,hib,hi⟩
    ·cases hi
   obtain ⟨b,hib,hl1⟩:=key i g o n h1
   obtain ⟨b',Vx,hl2⟩:=key i' g o' n' h2
   have e:=hr.inj b b' g o n o' n' hl1 hl2
   subst e
   obtain ⟨p1,q1⟩:=List.getElem?_eq_some_iff.1 hib
   obtain ⟨p2,q2⟩:=List.getElem?_eq_some_iff.1 Vx
   exact (List.getElem_inj hnd).1 (q1.trans q2.symm)
  ·obtain ⟨b,fB,o,n,hb⟩:=hown g ho
   exact ⟨.inl ⟨b,fB,o,n,hb⟩,(hr.bN g ⟨b,o,n,hb⟩).2⟩
  ·have hlt:i<B.length:=by
    rcases Nat.lt_or_ge i B.length with h1|h1
    ·exact h1
    ·simp [C',List.getElem?_eq_none h1] at hi
   have hib:B[i]? =some B[i]:=List.getElem?_eq_getElem hlt
   obtain ⟨cs,cs1,h1,h2,h3⟩:=hbx i _ hib
   refine ⟨?_,hlt,cs,?_⟩
   ·rw [hbl i _ hib]
    simp only [C',hib,Option.map_some,Option.some.injEq] at hi
    exact hi
   ·simp [dM,gH,h1]
 obtain ⟨hal,hag⟩:=zL xs ys ha
 have sH:VL w (ay C' (kQ ρ B) w) (kQ ρ B) (fun i=>i<B.length) xs vals:=by
  refine ⟨by rw [hal];exact hvl.1,fun i x u hi hu=> ?_⟩
  obtain ⟨y,hy,hxy⟩:=hag i x hi
  have hv:=hvl.2 i y u hy hu
  rcases hxy with ⟨k,j,b,rfl,hk,rfl⟩|⟨rfl,hp⟩
  ·obtain ⟨_,a,rfl,had⟩:=hv.mG
   have hlt:k<B.length:=(List.getElem?_eq_some_iff.1 hk).1
   exact .ptr a hlt (by rw [hbl k b hk];exact had)
  ·exact .p (hpure hp hv)
 refine (hF.2 C' (kQ ρ B) (fun i=>i<B.length) w vals hr0 (fun b hb=>by omega) sH).mono fun e w' hpost=> ?_
 obtain ⟨v,ρ1,U1,rfl,hr1,hv1⟩:=hpost
 have jf:∀ g,ay C' ρ1 w' g->ay C (fA ρ ρ1 nm es.length) w' g:=fun g hg=>by
  have hno:¬ ∃ i o n,i<es.length/\ρ1 (4+i)= .at g o n:=fun ⟨i,o,n,_,hi⟩=>hg.2.2 ⟨_,o,n,hi⟩
  have hcase:gX (fA ρ ρ1 nm es.length) g->gX ρ g:=fun ⟨k,o,n,hk⟩=>by
   unfold fA at hk
   split at hk
   ·exact absurd ⟨k - nm,o,n,by omega,hk⟩ hno
   ·exact ⟨k,o,n,hk⟩
  refine ⟨?_,hg.2.1,fun ho=> ?_⟩
  ·rcases hg.1 with h1|h1
   ·exact h1.1
   ·right;have:=hr.size;exact .inr (Nat.le_trans this (h1.resolve_left fun h=>h))
  ·have ho':=hcase ho
   rcases hg.1 with h1|h1
   ·exact h1.2.2 ho'
   ·have:=(hr.bN g ho').2
    have h1':w.heap.size<=g:=h1.resolve_left fun h=>h
    omega
 obtain ⟨hR,hkeep⟩:=back (C':=C') (nm:=nm) hr rfl (fun g=>Iff.rfl) (fun i=>rfl) hr1 (fun b hb=>by
  obtain ⟨i,hi⟩:=List.mem_iff_getElem?.1 hb
  obtain ⟨_,cs,_,h2,_⟩:=hbx i b hi
  exact ⟨cs,h2⟩) hlen hB4 hes hm (Dv bs' cs' hp).1 (Dv bs' cs' hp).2 hfr (fun _ h=>h) (.inl jf)
 refine ⟨v,sh nm r,_,fA ρ ρ1 nm es.length,uW U nm es.length,rfl,hR,?_,hkeep,fun b hb=> ?_,?_⟩
 ·refine VR.sh jf (fun i hi=> ?_) (fun i hi=> .inr ⟨by omega,by omega⟩) hv1 hx
  unfold fA
  rw [if_pos ⟨by omega,by omega⟩]
  congr 2;omega
 ·rcases hb with hb|hb
  ·exact .inl hb
  ·exact .inr ⟨hb.1,by omega⟩
 ·simpa [List.append_assoc] using hQ
theorem iR.use {ys:List AV} {x:Rec} (hc:iR P nm f ys h x) {Q:AV->List (Nat×Ob)->Prop} (hQ:Q x.val (x.upd++h)):nE P nm f ys h Q:=hc h (fun _ _=>rfl) Q hQ
mutual
def deep:AV->List Nat
 | .own b _ _ _=>[b]
 | .ptr b _=>[b]
 | .rp b _ _ _=>[b]
 | .mp b=>[b]
 | .agg cs=>bX cs
 | .aN cs=>bX cs
 | .fn _ cs=>bX cs
 |_=>[]
def bX:List AV->List Nat
 |[]=>[]
 |c::cs=>deep c++bX cs
end
mutual
theorem Dw {h h':List (Nat×Ob)} {S:List (Nat×Nat)}:∀ (x y:AV),(∀ b ∈ deep y,get h' b=get h b)->rv h S [] x y->rv h' S [] x y
 | .own ..,y,_,hx=>by unfold rv at hx ⊢;exact hx
 | .ptr ..,y,_,hx=>by unfold rv at hx ⊢;exact hx
 | .rp ..,y,_,hx=>by unfold rv at hx ⊢;exact hx
 | .mp ..,y,_,hx=>by unfold rv at hx ⊢;exact hx
 | .v _,y,_,hx=>by unfold rv at hx ⊢;exact hx
 | .sl sz ys,y,hh,hx=>by
  cases y with
  |own b sz' off len=>
   simp only [deep,List.mem_singleton,forall_eq] at hh
   simp only [rv,hh] at hx ⊢;exact hx
  |v a=>
   unfold rv at hx ⊢
   split at hx
   ·rename_i e;cases e
   ·rename_i e;cases e;exact hx
   ·rename_i e;cases e
   ·exact hx.elim
  |_=>simp only [rv] at hx ⊢<;>exact hx
 | .bB cs j,y,hh,hx=>by
  cases y with
  |rp b sz i j'=>
   simp only [deep,List.mem_singleton,forall_eq] at hh
   simp only [rv,hh] at hx ⊢;exact hx
  |_=>simp only [rv] at hx ⊢<;>exact hx
 | .agg ys,y,hh,hx=>by
  cases y<;>unfold rv at hx ⊢<;>try exact hx
  exact wU ys _ (by simpa only [deep] using hh) hx
 | .aN ys,y,hh,hx=>by
  cases y<;>unfold rv at hx ⊢<;>try exact hx
  exact wU ys _ (by simpa only [deep] using hh) hx
 | .fn f ys,y,hh,hx=>by
  cases y<;>unfold rv at hx ⊢<;>try exact hx
  exact ⟨hx.1,wU ys _ (by simpa only [deep] using hh) hx.2⟩
theorem wU {h h':List (Nat×Ob)} {S:List (Nat×Nat)}:∀ (xs ys:List AV),(∀ b ∈ bX ys,get h' b=get h b)->au h S [] xs ys->au h' S [] xs ys
 |[],[],_,_=>by simp only [au]
 |x::xs,y::ys,hh,hx=>by
  simp only [au] at hx ⊢
  simp only [bX,List.mem_append] at hh
  exact ⟨Dw x y (fun b hb=>hh b (.inl hb)) hx.1,wU xs ys (fun b hb=>hh b (.inr hb)) hx.2⟩
 |[],_::_,_,hx=>by simp only [au] at hx
 |_::_,[],_,hx=>by simp only [au] at hx
end
theorem Vy {C:Ctx} {ρ:Nat->Loc} {U:Nat->Prop} {w:World} {vals:Array Value} (hr:HR C ρ U h w) (hv:VL w (ay C ρ w) ρ U ys vals) (hx:au h [] [] xs ys):
 VL w (ay C (bK ρ [] []) w) (bK ρ [] []) (iK [] []) xs vals:=by
 have hl:=fT _ _ hx
 refine ⟨by rw [hl];exact hv.1,fun i x u hi hu=> ?_⟩
 obtain ⟨y,hy,hxy⟩:=fU _ _ hx i x hi
 exact jC hr (hv.2 i y u hy hu) x hxy
theorem Fn.KG (hF:Fn P f xs [] r [] es) (nm:Nat) (ha:au h [] [] xs ys) (hes:es.all rowOk=true) (hna:∀ o ∈ es,qx o) (hm:es.length<=8) (hx:bZ es.length r=true) (hr0:na r=true):
 iR P nm f ys h ⟨sh nm r,bS nm es,bX ys⟩:=by
 intro h' hh' Q hQ
 refine ⟨hF.1,fun C ρ U w vals hr hfr hvl=> ?_⟩
 have ha':=wU xs ys hh' ha
 have hd:∀ g,¬ gX (bK ρ [] []) g:=fun g ⟨k,o,n,hk⟩=>by simp [bK,get] at hk
 let C':Ctx:=⟨w,ay C (bK ρ [] []) w,(fun _=>False),(fun _=>none),0,(fun g hg=>hg.elim),(fun i l hl=>by cases hl),(fun _=>False),(fun _ h=>h.elim)⟩
 have hok:∀ g,ay C (bK ρ [] []) w g->ay C' (bK ρ [] []) w g:=fun g hg=>⟨.inl hg,hg.2.1,hg.2.2⟩
 have hrc:HR C' (bK ρ [] []) (iK [] []) (dM 0 []) w:=by
  refine ⟨fun i o hi=>by simp [dM,bS,get] at hi,fun i _=>by simp [bK,get],fun i i' g o n o' n' h1 _=>absurd ⟨i,o,n,h1⟩ (hd g),rfl,rfl,rfl,Nat.le_refl _,
   fun g _ _ _=>rfl,fun g hg=>⟨hg.2.1,fun h=>h.elim,fun h=>h⟩,fun g ho=>absurd ho (hd g),fun i l hi=>by cases hi⟩
 have sH:=Vy hr hvl ha'
 have Dx:VL w (ay C' (bK ρ [] []) w) (bK ρ [] []) (iK [] []) xs vals:=sH.mono hok (fun _ _=>rfl) (fun _ h=>h) (fun _ _=> .inl rfl)
 refine (hF.2 C' _ _ w vals hrc (fun b hb=>by simp [iK] at hb) Dx).mono fun e w' hpost=> ?_
 obtain ⟨v,ρ1,U1,rfl,hr1,hv1⟩:=hpost
 obtain ⟨hR,hkeep⟩:=back (C':=C') (B:=[]) (nm:=nm) hr rfl (fun g=>by simp [C']) (fun i=>by simp [C']) hr1 (fun b hb=>by simp at hb) rfl (by simp) hes hm (cs:=[]) rfl (fun i cs h=>by simp at h) hfr (fun _ h=>h) (.inr ⟨rfl,hna⟩)
 refine ⟨v,sh nm r,_,fA ρ ρ1 nm es.length,uW U nm es.length,rfl,hR,?_,hkeep,fun b hb=> ?_,?_⟩
 ·refine VR.Ky (fun i hi=> ?_) (fun i hi=> .inr ⟨by omega,by omega⟩) hv1 hx hr0
  unfold fA
  rw [if_pos ⟨by omega,by omega⟩]
  congr 2;omega
 ·rcases hb with hb|hb
  ·exact .inl hb
  ·exact .inr ⟨hb.1,by omega⟩
 ·simpa [eH] using hQ
mutual
theorem KH {S:List (Nat×Nat)} {N:List Nat}:∀ (x:AV),x.pure=true->rv h S N x x
 | .v a,_=>by simp only [rv]
 | .sl sz xs,_=>by simp only [rv,and_self]
 | .bB cs j,_=>by simp only [rv,and_self]
 | .agg cs,hx=>by simp only [rv];exact ic cs (by simpa only [AV.pure] using hx)
 | .aN cs,hx=>by simp only [rv];exact ic cs (by simpa only [AV.pure] using hx)
 | .fn f cs,hx=>by simp only [rv,true_and];exact ic cs (by simpa only [AV.pure] using hx)
 | .own ..,hx=>by simp [AV.pure] at hx
 | .ptr ..,hx=>by simp [AV.pure] at hx
 | .rp ..,hx=>by simp [AV.pure] at hx
 | .mp ..,hx=>by simp [AV.pure] at hx
theorem ic {S:List (Nat×Nat)} {N:List Nat}:∀ (xs:List AV),bf xs=true->au h S N xs xs
 |[],_=>by simp only [au]
 |x::xs,hx=>by
  simp only [bf,Bool.and_eq_true] at hx
  simp only [au]
  exact ⟨KH x hx.1,ic xs hx.2⟩
end
theorem KI {S:List (Nat×Nat)} {N:List Nat} {x y:AV} (he:x=y) (hp:y.pure=true):rv h S N x y:=he▸KH _ (he▸hp)
theorem Fin.bA {res:List gY} {r:AV} {t:List (Nat×AV)} (xs:List AV) (h1:gZ t h res=some xs) (h2:fw h [] [] []=true) (h3:rv h [] [] r (aD xs)):Fin res r [] [] t h:=
 ⟨[],[],xs,h1,h2,by simp only [bq],by simp only [gG],h3⟩
theorem Fin.aQ {res:List gY} {r:AV} {t:List (Nat×AV)} (xs:List AV) (h1:gZ t h res=some xs) (h2:fw h [] [] []=true) (h3:(aD xs).pure=true) (h4:r=aD xs):Fin res r [] [] t h:=
 Fin.bA xs h1 h2 (KI h4 h3)
theorem Dy (nm:Nat):∀ (x:AV),x.pure=true->sh nm x=x:=by
 intro x
 refine AV.rec (motive_1:=fun x=>x.pure=true->sh nm x=x) (motive_2:=fun xs=>bf xs=true->jV nm xs=xs) (motive_3:=fun _=>True)
  ?_ ?_ ?_ ?_ ?_ ?_ ?_ ?_ ?_ ?_ ?_ ?_ ?_ ?_ x
 ·intro v _;simp only [sh]
 ·intro cs ih hx;simp only [sh];rw [ih (by simpa only [AV.pure] using hx)]
 ·intro cs ih hx;simp only [sh];rw [ih (by simpa only [AV.pure] using hx)]
 ·intro sz xs _ _;simp only [sh]
 ·intro b sz off len hx;simp [AV.pure] at hx
 ·intro b j hx;simp [AV.pure] at hx
 ·intro b sz k j hx;simp [AV.pure] at hx
 ·intro cs j _ _;simp only [sh]
 ·intro b hx;simp [AV.pure] at hx
 ·intro f cs ih hx;simp only [sh];rw [ih (by simpa only [AV.pure] using hx)]
 ·intro _;simp only [jV]
 ·intro c cs ih1 ih2 hx
  simp only [bf,Bool.and_eq_true] at hx
  simp only [jV];rw [ih1 hx.1,ih2 hx.2]
 ·trivial
 ·intros;trivial
mutual
theorem zP {m:Nat}:∀ (x:AV),x.pure=true->bZ m x=true
 | .v a,_=>by simp only [bZ]
 | .sl sz xs,_=>by simp only [bZ]
 | .bB cs j,_=>by simp only [bZ]
 | .agg cs,hx=>by simp only [bZ];exact zQ cs (by simpa only [AV.pure] using hx)
 | .aN cs,hx=>by simp only [bZ];exact zQ cs (by simpa only [AV.pure] using hx)
 | .fn f cs,hx=>by simp only [bZ];exact zQ cs (by simpa only [AV.pure] using hx)
 | .own ..,hx=>by simp [AV.pure] at hx
 | .ptr ..,hx=>by simp [AV.pure] at hx
 | .rp ..,hx=>by simp [AV.pure] at hx
 | .mp ..,hx=>by simp [AV.pure] at hx
theorem zQ {m:Nat}:∀ (xs:List AV),bf xs=true->mR m xs=true
 |[],_=>by simp only [mR]
 |x::xs,hx=>by
  simp only [bf,Bool.and_eq_true] at hx
  simp only [mR,Bool.and_eq_true]
  exact ⟨zP x hx.1,zQ xs hx.2⟩
end
theorem uY {A:List Nat}:∀ (xs:List AV),bf xs=true->gK A xs xs
 |[],_=>by simp only [gK]
 |x::xs,hx=>by
  simp only [bf,Bool.and_eq_true] at hx
  simp only [gK]
  refine ⟨?_,uY xs hx.2⟩
  split
  ·simp [AV.pure] at hx
  ·exact ⟨rfl,hx.1⟩
theorem Dz {A:List Nat}:∀ (l:List (List AV)),uX l=true->mV A l l
 |[],_=>by simp only [mV]
 |x::xs,hx=>by
  simp only [uX,Bool.and_eq_true] at hx
  simp only [mV]
  exact ⟨uY x hx.1,Dz xs hx.2⟩
theorem Fn.zR (hF:Fn P f xs [] r [] []) (hp:bf xs=true) (hr:r.pure=true):iR P nm f xs h ⟨r,[],[]⟩:=by
 have:=hF.sG (h:=h) nm [] [] (uY xs hp) (by simp only [mU]) (by simp) (by simp) rfl (by simp only [mV]) rfl (by simp) (zP r hr)
 rw [Dy nm r hr] at this
 exact this
theorem aS {k:List It} {Q:Exit->St->Prop} {n n':Nat} {t:List (Nat×AV)} {d:Option Nat} {l:List av} (hF:Fn P f xs [] r [] []) (hp:bf xs=true) (hr:r.pure=true)
 (hk:go P (.ops (nm+8) n' l::k) Q n (aV t d r) h):lQ P nm f xs d n' l k Q n t h:=uV (hF.zR hp hr) hk
theorem dV {k:List It} {Q:Exit->St->Prop} {n n':Nat} {t:List (Nat×AV)} {d:Option Nat} {l ops:List av} {acc:List aW} (hF:Fn P f xs [] r [] []) (hp:bf xs=true) (hr:r.pure=true)
 (hk:go P (.bC (nm+8) n' l ops (([],[])::acc)::k) Q n (aV t d r) h):qw P nm f xs d n' l ops acc k Q n t h:=KC (hF.zR hp hr) hk
theorem Fin.nH {res:List gY} {r:AV} {t:List (Nat×AV)} {cs cs':List AV} (xs:List AV) (h1:gZ t h res=some xs) (hb:get h 0=some (.box cs)) (h2:fw h [(0,0)] [] [(0,.box cs')]=true)
 (h3:au h [(0,0)] [] cs' cs) (h4:rv h [(0,0)] [] r (aD xs)):Fin res r [cs'] [] t h:=by
 have e:outs [cs'] []=[(0,.box cs')]:=rfl
 refine ⟨[(0,0)],[],xs,h1,by rw [e];exact h2,?_,by simp only [gG],h4⟩
 rw [e]
 simp only [bq,get,if_true,hb,and_true,aR]
 exact h3
theorem Fin.bH {res:List gY} {r:AV} {t:List (Nat×AV)} {cs cs':List AV} (xs:List AV) (h1:gZ t h res=some xs) (hb:get h 0=some (.box cs)) (h2:fw h [(0,0)] [] [(0,.box cs)]=true)
 (h3:(aD xs).pure=true) (h4:bf cs=true) (h5:cs'=cs) (h6:r=aD xs):Fin res r [cs'] [] t h:=by
 subst h5
 exact Fin.nH xs h1 hb h2 (ic _ h4) (KI h6 h3)
theorem dG {k:List It} {Q:Exit->St->Prop} {n n':Nat} {t:List (Nat×AV)} {d:Option Nat} {l:List av} {b:Nat} {cs cs':List AV} (hF:Fn P f xs [cs] r [cs'] []) (ha:gK [b] xs ys)
 (hb:get h b=some (.box cs)) (hp:bf cs=true) (hp':bf cs'=true) (hr:r.pure=true) (hk:go P (.ops (nm+8) n' l::k) Q n (aV t d r) ((b,.box cs')::h)):lQ P nm f ys d n' l k Q n t h:=by
 have:=hF.sG (h:=h) nm [b] [cs'] ha (by simp only [mU,and_true,hb];exact uY cs hp) (by simp) (by simp) rfl (Dz [cs'] (by simp only [uX,hp',Bool.and_true])) rfl (by simp) (zP r hr)
 rw [Dy nm r hr] at this
 exact uV this hk
end
end Go.Eng
namespace Go.Eng
open Go
theorem Vz (x:Value):(AV.v x).one=x.oneCell':=rfl
theorem VA (cs:List AV):(AV.agg cs).one=false:=rfl
theorem VB (cs:List AV):(AV.aN cs).one=false:=rfl
theorem VD (sz:Nat) (xs:List (List AV)):(AV.sl sz xs).one=true:=rfl
theorem VE (b sz off len:Nat):(AV.own b sz off len).one=true:=rfl
theorem VF (b j:Nat):(AV.ptr b j).one=true:=rfl
theorem VG (b sz k j:Nat):(AV.rp b sz k j).one=true:=rfl
theorem VH (cs:List AV) (j:Nat):(AV.bB cs j).one=true:=rfl
theorem VI (b:Nat):(AV.mp b).one=true:=rfl
theorem VJ (f:FuncId) (cs:List AV):(AV.fn f cs).one=true:=rfl
attribute [go_sem] Vz VA VB VD VE VF VG VH VI VJ
attribute [go_sem] Te Dn go_skip Dp go_ret Tf Tg Dq
attribute [go_sem] Ti Tj Dr zK go_region Tk Tn Tp
attribute [go_sem] Tq Tt Tv Tw Tx Ty Tz TA
attribute [go_sem] TB TD TF TG TH TI TJ TK
attribute [go_sem] TL TM TN TQ TR TS TT TU
attribute [go_sem] TV TW TY T9 Ua Ub Ud Ue
attribute [go_sem] Uf Ug Uh Ui Uj Uk Ul Um Un
attribute [go_sem] Uo go_call Uq Ur Us Ut Uu Uv
attribute [go_sem] Uw Ux Uy Uz UA UB UC UD
attribute [go_sem] UE UF UG UH UI UJ UK UL
attribute [go_sem] UM UN UO UQ UR UU UW UX
attribute [go_sem] UY UZ U3 U4 U5 U6 U7 U8
attribute [go_sem] U9 Va Vb Vd Ve Vf Vg Vh Vi
attribute [go_sem] Vj Vk Vl Vm Vn Vo Vp Vq
attribute [go_sem] Vr Vs Vt Vu Vv
attribute [go_sem] ax ev iO get E.ok aV jR jQ
attribute [go_sem] Value.oneCell' jc jS uo oz oC nD kF kE oF ze oD dh za wB mK
attribute [go_sem] splice gu bf AV.pure iP iD mM bound
attribute [go_sem] bytesOf uq qc bP dA AV.iF lT dM
attribute [go_sem] bS eH gZ aD sh jV zO au
attribute [go_sem] outs kK gK mU uX bQ bq gG
attribute [go_sem] aR bZ mR na jD rowOk deep bX
attribute [go_sem] get_nil
attribute [go_sem] true_and and_true List.append_nil List.nil_append List.cons_append List.length_cons List.length_nil List.map_cons
attribute [go_sem] List.map_nil Bool.and_true Bool.and_self Bool.not_true Bool.not_false Bool.false_eq_true Bool.true_and List.getElem?_cons_zero
attribute [go_sem] List.getElem?_cons_succ Nat.succ_eq_add_one Nat.zero_add Nat.add_zero List.take_zero List.drop_zero List.take_succ_cons List.drop_succ_cons
attribute [go_sem] List.take_nil List.drop_nil
end Go.Eng
namespace Go.Eng
open Go Go.RowKit
def Arg (w:World) (x:AV) (u:Value):Prop:=VP w (fun g=>g<w.heap.size) x u
theorem Fn.said {P:Program} {f:FuncId} {xs:List AV} {v:Value} (hF:Fn P f xs [] (.v v) [] []) (w:World) (vals:Array Value) (hl:xs.length=vals.size)
 (hv:∀ (i:Nat) (x:AV) (u:Value),xs[i]? =some x->vals[i]? =some u->Arg w x u):Calls P f vals w fun e w'=>e= .returned v/\Below w.heap.size w w':=by
 let C:Ctx:=⟨w,fun g=>g<w.heap.size,fun _=>False,fun _=>none,0,fun _ h=>h.elim,(fun _ _ h=>by cases h),(fun _=>False),fun _ h=>h.elim⟩
 have hno:∀ g,¬ gX (fun _:Nat=>Loc.dead) g:=fun g ⟨b,o,n,h⟩=>by cases h
 have hr:HR C (fun _=> .dead) (fun _=>False) (dM 0 []) w:=by
  refine ⟨fun b o h=> ?_,fun _ _=>rfl,fun b b' g o n o' n' h=> ?_,rfl,rfl,rfl,Nat.le_refl _,fun _ _ _ _=>rfl,fun g h=>⟨h,(fun h=>h),fun h=>h⟩,fun g h=>(hno g h).elim,fun b l h=> ?_⟩
  ·cases h
  ·cases h
  ·cases h
 refine (hF.2 C (fun _=> .dead) (fun _=>False) w vals hr (fun b h=>h.elim) ⟨hl,fun i x u h1 h2=> .p ((hv i x u h1 h2).mono (fun g hg=>⟨.inl hg,hg,hno g⟩) (fun _ _=>rfl))⟩).mono fun e w' h=> ?_
 obtain ⟨v',ρ',U',rfl,h1,h2⟩:=h
 obtain rfl:=h2.bR
 refine ⟨rfl,h1.os,h1.tape,h1.output,h1.size,fun k hk=>h1.old k hk (fun h=>h) fun h=>h⟩
end Go.Eng
namespace Go.Eng
open Go
def stay (h:List (Nat×Ob)) (Z:List Nat):List (Nat×Nat):=((h.map Prod.fst).filter fun k=> !Z.contains k).map fun k=>(k,k)
def kills (Z:List Nat):List (Nat×Ob):=Z.map fun k=>(k,Ob.dead)
theorem uZ (h:List (Nat×Ob)) (Z:List Nat) (k:Nat):get (stay h Z) k=if k ∈ h.map Prod.fst/\k ∉ Z then some k else none:=by
 unfold stay
 induction h with
 |nil=>simp [get]
 |cons p h ih=>
  obtain ⟨j,o⟩:=p
  simp only [List.map_cons]
  by_cases hj:j ∈ Z
  ·rw [List.filter_cons_of_neg (by simp [hj]),ih]
   by_cases e:j=k
   ·subst e;simp [hj]
   ·simp only [List.mem_cons,show ¬ k=j from fun h=>e h.symm,false_or]
  ·rw [List.filter_cons_of_pos (by simp [hj]),List.map_cons]
   by_cases e:j=k
   ·subst e;simp [get,hj]
   ·rw [gq _ _ _ _ e,ih]
    simp only [List.mem_cons,show ¬ k=j from fun h=>e h.symm,false_or]
section
variable {C:Ctx} {ρ:Nat->Loc} {U:Nat->Prop} {h:List (Nat×Ob)} {w:World}
def dI (ρ:Nat->Loc) (Z:List Nat) (k:Nat):Loc:=if k ∈ Z then .dead else ρ k
theorem HR.kills (hr:HR C ρ U h w):∀ (Z:List Nat),(∀ b ∈ Z,∃ e sz xs,get h b=some (.row e sz xs))->∃ U',(∀ k,U' k->U k)/\(∀ k,U k->U' k)/\HR C (dI ρ Z) U' (kills Z++h) w
 |[],_=>⟨U,fun _ h=>h,fun _ h=>h,by
  have:dI ρ []=ρ:=by funext k;simp [dI]
  rw [this];exact hr⟩
 |b::Z,hz=>by
  obtain ⟨U',h1,h2,h3⟩:=HR.kills hr Z fun b hb=>hz b (List.mem_cons_of_mem _ hb)
  obtain ⟨e,sz,xs,hb⟩:=hz b (List.mem_cons_self ..)
  have hub:U b:=(hr.hp b _ hb).1
  have hnb:∀ cs,get (Go.Eng.kills Z++h) b≠some (.box cs):=by
   intro cs hg
   rw [get_append] at hg
   cases hk:get (Go.Eng.kills Z) b with
   |none=>rw [hk] at hg;simp only at hg;rw [hb] at hg;cases hg
   |some o=>
    rw [hk] at hg
    simp only [Option.some.injEq] at hg
    subst hg
    have:=get_mem hk
    simp [Go.Eng.kills] at this
  have hm:Moved C (dI ρ Z) U' (Go.Eng.kills Z++h) w b .dead w:=⟨rfl,rfl,rfl,Nat.le_refl _,fun _ _ _=>rfl,.inr (.inl ⟨h2 _ hub,rfl,hnb⟩)⟩
  have:=hm.hr h3 (ob:= .dead) (fun ⟨cs,hc⟩=>(hnb cs hc).elim) rfl
  refine ⟨fq U' b,fun k hk=> ?_,fun k hk=> .inl (h2 k hk),?_⟩
  ·rcases hk with hk|rfl
   ·exact h1 k hk
   ·exact hub
  ·have e:dI ρ (b::Z)=up (dI ρ Z) b .dead:=by
    funext k
    simp only [dI,up,List.mem_cons]
    by_cases e:k=b
    ·simp [e]
    ·simp [e]
   rw [e];exact this
theorem KJ {P:Program} {nm:Nat} {f:FuncId} {args args':List AV} {Q:AV->List (Nat×Ob)->Prop} (Z:List Nat)
 (hz:∀ b ∈ Z,∃ e sz xs,get h b=some (.row e sz xs)) (ha:au h (stay h Z) [] args' args) (hk:nE P nm f args' (kills Z++h) Q):nE P nm f args h Q:=by
 refine ⟨hk.1,fun C ρ U w vals hr hU hv=> ?_⟩
 obtain ⟨U',qz,qA,hr'⟩:=hr.kills Z hz
 have hloc:bK ρ (stay h Z) []=dI ρ Z:=by
  funext k
  simp only [bK,uZ,dI]
  by_cases hkz:k ∈ Z
  ·simp [hkz]
  ·by_cases hkh:k ∈ h.map Prod.fst
   ·rw [if_pos ⟨hkh,hkz⟩,if_neg hkz]
   ·rw [if_neg (fun h=>hkh h.1),if_neg hkz]
    have:get h k=none:=by
     cases hg:get h k with
     |none=>rfl
     |some o=>exact absurd (List.mem_map.2 ⟨_,get_mem hg,rfl⟩) hkh
    rw [hr.hd k this];simp
 have hnu:∀ k,iK (stay h Z) [] k->U' k:=by
  intro k hk
  rcases hk with hk|hk
  ·obtain ⟨c,hc⟩:=qo hk
   rw [uZ] at hc
   split at hc
   ·rename_i h1
    obtain ⟨o,ho⟩:=qo h1.1
    exact qA k (hr.hp k o ho).1
   ·cases hc
  ·simp at hk
 have lS:Later U ρ (dI ρ Z):=fun b _=>by
  unfold dI
  by_cases e:b ∈ Z
  ·rw [if_pos e];exact .inr rfl
  ·rw [if_neg e];exact .inl rfl
 have DC:∀ g,ay C ρ w g->ay C (dI ρ Z) w g:=fun g hg=>⟨hg.1,hg.2.1,fun ⟨b,o,n,hb⟩=>by
  unfold dI at hb
  split at hb
  ·cases hb
  ·exact hg.2.2 ⟨b,o,n,hb⟩⟩
 have hl:=fT _ _ ha
 have hv':VL w (ay C (dI ρ Z) w) (dI ρ Z) U' args' vals:=by
  refine ⟨by rw [hl];exact hv.1,fun i x u hi hu=> ?_⟩
  obtain ⟨y,hy,hxy⟩:=fU _ _ ha i x hi
  have:=jC hr (hv.2 i y u hy hu) x hxy
  rw [hloc] at this
  exact this.mono (fun _ h=>h) (fun _ _=>rfl) hnu (fun _ _=> .inl rfl)
 refine (hk.2 C (dI ρ Z) U' w vals hr' (fun b hb=>hU b (qz b hb)) hv').mono fun e w' hpost=> ?_
 obtain ⟨v,r,h',ρ',rV,rfl,h1,h2,h3,h4,h5⟩:=hpost
 exact ⟨v,r,h',ρ',rV,rfl,h1,h2,fun x u hx=>h3 x u (hx.mono DC (fun _ _=>rfl) qA lS),fun b hb=>(h4 b hb).imp (qz b) id,h5⟩
end
end Go.Eng
namespace Go.Eng
open Go
theorem Arg.val (w:World) (u:Value):Arg w (.v u) u:= .v u
theorem Arg.nil (w:World) (sz:Nat):Arg w (.sl sz []) (.slice none 0 0):= .fo
theorem Arg.ints {w:World} {k:IntKind} {x:Addr} {len cap:Nat} {zs:List Int} (hl:len<=cap) (hz:zs.length=cap)
 (hc:∀ i,i<zs.length->w.cell? (x.add i)=some (.int k (zs.getD i 0))):Arg w (.sl 1 ((zs.take len).map fun z=>[.v (.int k z)])) (.slice (some x) len cap):=by
 have hlen:((zs.take len).map fun z=>[AV.v (.int k z)]).length=len:=by simp;omega
 have hel:∀ (i:Nat) (e:List AV),((zs.take len).map fun z=>[AV.v (.int k z)])[i]? =some e->i<len/\e=[.v (.int k (zs.getD i 0))]:=by
  intro i e h
  have h1:i<len:=by rw [<-hlen];exact (List.getElem?_eq_some_iff.1 h).1
  refine ⟨h1,?_⟩
  rw [List.getElem?_map,List.getElem?_take_of_lt h1] at h
  rw [List.getD_eq_getElem?_getD]
  cases hz:zs[i]? with
  |none=>rw [hz] at h;cases h
  |some z=>rw [hz] at h;simp only [Option.map_some,Option.some.injEq] at h;rw [<-h];rfl
 have hadd:∀ i,i<zs.length->w.cell? ⟨x.block,x.off+i,none⟩=some (.int k (zs.getD i 0)):=by
  intro i hi
  have h:=hc i hi
  have hs:=World.cell?_spot h
  unfold Addr.add at h hs
  split at h
  ·rename_i e
   subst e
   simp only [if_true] at hs
   obtain ⟨b,o,s⟩:=x
   simp only at hs
   subst hs
   exact h
  ·exact h
 refine .sl x len cap (fun i _=> .int k (zs.getD i 0)) hlen.symm hl (fun h=> ?_) (fun i e h=>by obtain ⟨_,rfl⟩:=hel i e h;rfl) (fun i e j c h hj=> ?_) (fun i e j c h hj=> ?_)
 ·have h0:0<zs.length:=by rw [hlen] at h;omega
  have h1:=hc 0 h0
  simp only [Addr.add,if_true] at h1
  refine ⟨World.cell?_spot h1,?_⟩
  unfold World.cell? at h1
  split at h1
  ·rename_i c a b hb
   exact (Array.getElem?_eq_some_iff.1 hb).1
  ·cases h1
 ·obtain ⟨h1,rfl⟩:=hel i e h
  have hj0:j=0:=by
   have:=(List.getElem?_eq_some_iff.1 hj).1
   simpa using this
  subst hj0
  simp only [Nat.mul_one,Nat.add_zero]
  exact ⟨hadd i (by omega),rfl⟩
 ·obtain ⟨h1,rfl⟩:=hel i e h
  have hj0:j=0:=by
   have:=(List.getElem?_eq_some_iff.1 hj).1
   simpa using this
  subst hj0
  simp only [List.getElem?_cons_zero,Option.some.injEq] at hj
  subst hj
  exact .v _
theorem VR.rn {w w':World} {ok ok':Nat->Prop} {ρ ρ':Nat->Loc} {U U':Nat->Prop} {S:List (Nat×Nat)} (hS:∀ k b,get S k=some b->U' k/\ρ' k=ρ b) (hok:∀ g,ok g->ok' g)
 (hw:∀ g,ok g->w'.heap[g]? =w.heap[g]?) {y:AV} {u:Value} (h:VR w ok ρ U y u):∀ x,rv [] S [] x y->VR w' ok' ρ' U' x u:=by
 have kp:∀ {y:AV} {u:Value},VP w ok y u->∀ x,rv [] S [] x y->VR w' ok' ρ' U' x u:=fun h=>by
  induction h with
  |v a=>
   intro x hx
   cases x with
   |v b=>simp only [rv] at hx;cases hx;exact .p (.v _)
   |sl sz ys=>
    unfold rv at hx
    split at hx
    ·rename_i e;cases e
    ·rename_i e;cases e;subst hx;exact .p .fo
    ·rename_i e;cases e
    ·exact hx.elim
   |own k sz off len=>
    unfold rv at hx
    split at hx
    ·rename_i e;cases e
    ·simp at hx
    ·exact hx.elim
   |_=>simp only [rv] at hx
  |agg hl hc ih=>
   intro x hx
   cases x<;>simp only [rv] at hx<;>try (cases hx;done)
   have h1:=fT _ _ hx
   refine .agg (by omega) fun i c u hi hu=> ?_
   obtain ⟨z,h2,h3⟩:=fU _ _ hx i c hi
   exact ih i z u h2 hu c h3
  |aN hl hc ih=>
   intro x hx
   cases x<;>simp only [rv] at hx<;>try (cases hx;done)
   have h1:=fT _ _ hx
   refine .aN (by omega) fun i c u hi hu=> ?_
   obtain ⟨z,h2,h3⟩:=fU _ _ hx i c hi
   exact ih i z u h2 hu c h3
  |fn hf hl hc ih=>
   intro x hx
   cases x<;>simp only [rv] at hx<;>try (cases hx;done)
   obtain ⟨rfl,hx⟩:=hx
   have h1:=fT _ _ hx
   refine .fn hf (by omega) fun i c u hi hu=> ?_
   obtain ⟨z,h2,h3⟩:=fU _ _ hx i c hi
   exact ih i z u h2 hu c h3
  |jN h hc ih=>
   intro x hx
   cases x<;>simp only [rv] at hx<;>try (cases hx;done)
   obtain ⟨rfl,hx⟩:=hx
   rename_i ys
   match ys,hx with
   |[y],hx=>
    simp only [au,and_true] at hx
    have h2:=ih y hx
    cases y<;>simp only [rv] at hx<;>try (cases hx;done)
    obtain ⟨rfl,rfl⟩:=hx
    exact .p (.jN h2.ou hc)
   |[],hx=>simp only [au] at hx
   |_::_::_,hx=>simp only [au,and_false] at hx
  |fo=>
   intro x hx
   cases x<;>simp only [rv] at hx<;>try (cases hx;done)
   obtain ⟨rfl,rfl⟩:=hx
   exact .p .fo
  |sl a n cap f hn hcap hk hl hc hv ih=>
   intro x hx
   cases x<;>simp only [rv] at hx<;>try (cases hx;done)
   obtain ⟨rfl,rfl⟩:=hx
   exact .p ((VP.sl a n cap f hn hcap hk hl hc hv).mono hok hw)
  |bB g o f hk hc hv ih=>
   intro x hx
   cases x<;>simp only [rv] at hx<;>try (cases hx;done)
   obtain ⟨rfl,rfl⟩:=hx
   exact .p ((VP.bB g o f hk hc hv).mono hok hw)
 induction h with
 |p h=>exact kp h
 |agg hl hc ih=>
  intro x hx
  cases x<;>simp only [rv] at hx<;>try (cases hx;done)
  have h1:=fT _ _ hx
  refine .agg (by omega) fun i c u hi hu=> ?_
  obtain ⟨z,h2,h3⟩:=fU _ _ hx i c hi
  exact ih i z u h2 hu c h3
 |aN hl hc ih=>
  intro x hx
  cases x<;>simp only [rv] at hx<;>try (cases hx;done)
  have h1:=fT _ _ hx
  refine .aN (by omega) fun i c u hi hu=> ?_
  obtain ⟨z,h2,h3⟩:=fU _ _ hx i c hi
  exact ih i z u h2 hu c h3
 |fn hf hl hc ih=>
  intro x hx
  cases x<;>simp only [rv] at hx<;>try (cases hx;done)
  obtain ⟨rfl,hx⟩:=hx
  have h1:=fT _ _ hx
  refine .fn hf (by omega) fun i c u hi hu=> ?_
  obtain ⟨z,h2,h3⟩:=fU _ _ hx i c hi
  exact ih i z u h2 hu c h3
 |own hu ho=>
  intro x hx
  cases x with
  |own k sz' off' len'=>
   simp only [rv] at hx
   obtain ⟨h1,rfl,rfl,rfl⟩:=hx
   obtain ⟨h2,h3⟩:=hS _ _ h1
   exact .own h2 (by rw [h3];exact ho)
  |sl sz' ys=>simp [rv,get] at hx
  |bB cs j=>simp [rv] at hx
  |_=>simp only [rv] at hx<;>cases hx
 |ptr a hu ha=>
  intro x hx
  cases x with
  |ptr k j=>
   simp only [rv] at hx
   obtain ⟨h1,rfl⟩:=hx
   obtain ⟨h2,h3⟩:=hS _ _ h1
   exact .ptr a h2 (by rw [h3];exact ha)
  |_=>simp only [rv] at hx<;>cases hx
 |rp a hu ha=>
  intro x hx
  cases x with
  |rp k sz i j=>
   simp only [rv] at hx
   obtain ⟨h1,rfl,rfl,rfl⟩:=hx
   obtain ⟨h2,h3⟩:=hS _ _ h1
   exact .rp a h2 (by rw [h3];exact ha)
  |bB cs j=>simp [rv,get] at hx
  |_=>simp only [rv] at hx<;>cases hx
 |mp a hu ha=>
  intro x hx
  cases x with
  |mp k=>
   simp only [rv] at hx
   obtain ⟨h2,h3⟩:=hS _ _ hx
   exact .mp a h2 (by rw [h3];exact ha)
  |_=>simp only [rv] at hx<;>cases hx
theorem dO.rn {w w':World} {ok ok':Nat->Prop} {ρ ρ':Nat->Loc} {U U':Nat->Prop} {S:List (Nat×Nat)} (hS:∀ k b,get S k=some b->U' k/\ρ' k=ρ b) (hok:∀ g,ok g->ok' g)
 (hw:∀ g,ok g->w'.heap[g]? =w.heap[g]?) {l:Loc} (hl:∀ g o n,l= .at g o n->w'.heap[g]? =w.heap[g]?) {x y:Ob} (h:dO w ok ρ U l y) (hx:aR [] S [] x y):dO w' ok' ρ' U' l x:=by
 cases y with
 |box cs=>
  cases x with
  |box ds=>
   simp only [aR] at hx
   obtain ⟨g,o,n,e,cells,h1,h2,h3,h4,h5⟩:=h
   have h6:=fT _ _ hx
   refine ⟨g,o,n,e,cells,h1,(hl g o n h1).trans h2,h3,by omega,fun j c hj=> ?_⟩
   obtain ⟨z,h7,h8⟩:=fU _ _ hx j c hj
   obtain ⟨u,hu,hv⟩:=h5 j z h7
   exact ⟨u,hu,hv.rn hS hok hw c h8⟩
  |_=>simp only [aR] at hx
 |row e sz xs=>
  cases x with
  |row e' sz' ys=>
   simp only [aR] at hx
   obtain ⟨rfl,rfl,rfl⟩:=hx
   rcases h with h|⟨g,o,n,cells,h1,h2,h3,h4,h5,h6⟩
   ·exact .inl h
   ·refine .inr ⟨g,o,n,cells,h1,(hl g o n h1).trans h2,h3,h4,h5,fun k x j c hk hj=> ?_⟩
    obtain ⟨u,hu,h1c,hv⟩:=h6 k x j c hk hj
    exact ⟨u,hu,h1c,hv.mono hok hw⟩
  |_=>simp only [aR] at hx
 |map es=>
  cases x with
  |map es'=>
   simp only [aR] at hx
   obtain ⟨g,bG,clock,h1,h2,h3,h4⟩:=h
   obtain ⟨hl',Dj⟩:=Di _ _ hx
   refine ⟨g,bG,clock,h1,(hl g 0 0 h1).trans h2,by omega,fun i k c m hi he=> ?_⟩
   obtain ⟨z,h7,h8⟩:=Dj i k c hi
   exact ⟨(h4 i k z m h7 he).1,(h4 i k z m h7 he).2.rn hS hok hw c h8⟩
  |_=>simp only [aR] at hx
 |dead=>cases x<;>simp only [aR] at hx
def dW (P:Program) (f:FuncId) (xs:List AV) (bs:List (List AV)) (gs:List Ob) (r:AV) (bs':List (List AV)) (es:List Ob):Prop:=
 Enters P f/\∀ (C:Ctx) (ρ:Nat->Loc) (U:Nat->Prop) (w:World) (vals:Array Value),HR C ρ U (outs bs gs) w->(∀ b,U b->b<8)->VL w (ay C ρ w) ρ U xs vals->
  Calls P f vals w fun e w'=>∃ v ρ' U',e= .returned v/\HR C ρ' U' (outs bs' es) w'/\VR w' (ay C ρ' w') ρ' U' r v
theorem dW.aB {P:Program} {f:FuncId} {sc:cK} {res:List gY} {nt:Nat} (hok:aF P f sc res nt) {xs:List AV} {bs:List (List AV)} {gs:List Ob} {r:AV} {bs':List (List AV)} {es:List Ob}
 (hn:xs.length<=nt) (hgo:go P [.code sc] (zO res r bs' es) 8 (lT 0 xs) (outs bs gs)):dW P f xs bs gs r bs' es:=by
 obtain ⟨⟨fn,c,hf,hnm,hb,hs,hres,hr4,rfl⟩,hoc,hm⟩:=hok
 refine ⟨⟨fn,hf,hnm,by rw [hb];rfl⟩,fun C ρ U w vals hr hU hv=> ?_⟩
 let C1:Ctx:={C with nt:=fn.ntmps}
 have hr1:HR C1 ρ U (outs bs gs) w:=⟨hr.hp,hr.hd,hr.inj,hr.os,hr.tape,hr.output,hr.size,hr.old,hr.jb,hr.bN,hr.fix⟩
 refine calls_of_wp hf hb (rX (C:=C1) hm c sc hs hoc _ _ ⟨8,lT 0 xs,outs bs gs⟩ _ w ⟨ρ,U,⟨hr1,fun k x hk=> ?_,rfl,?_⟩,fun b hb=>hU b hb⟩ hgo fun e s a w' hA hQ=> ?_)
 ·rw [zN] at hk
  simp only [Nat.zero_le,if_true,Nat.sub_zero] at hk
  have hlt:k<vals.size:=by rw [<-hv.1];exact (List.getElem?_eq_some_iff.1 hk).1
  refine ⟨vals[k],?_,hv.2 k x _ hk (Array.getElem?_eq_getElem hlt)⟩
  simp [Array.getElem?_append,hlt]
 ·have:=hv.1
  simp only [Array.size_append,Array.size_replicate]
  show _=fn.ntmps
  omega
 ·have fin:Fin res r bs' es s.t s.h->a.defers=[]/\∃ v,(results fn a.tmps).run P w'= .ok v w'/\∃ v_1 ρ' U',Ending.returned v=Ending.returned v_1/\HR C ρ' U' (outs bs' es) w'/\VR w' (ay C ρ' w') ρ' U' r v_1:=fun hF=>by
   obtain ⟨S,N,ys,h1,h2,h3,h4,h5⟩:=hF
   obtain ⟨ρ1,U1,hS,_⟩:=hA
   obtain ⟨vs,h6,h7,h8,h9⟩:=wT (P:=P) hS.hr hS.tm fn.results.toList res ys hres h1
   refine ⟨hS.defers,_,Dk a.tmps w' rfl h6 hr4 h8,_,bK ρ1 S N,iK S N,rfl,?_,?_⟩
   ·have:=uR hS.hr h2 h3 h4
    exact ⟨this.hp,this.hd,this.inj,this.os,this.tape,this.output,this.size,this.old,this.jb,this.bN,this.fix⟩
   ·exact jC hS.hr (Dl (by omega) h9) r h5
  cases e with
  |normal=>exact fin hQ
  |ret=>exact fin hQ
  |exit i=>exact hQ.elim
  |goto l=>exact hQ.elim
  |panic ch=>exact hQ.elim
  |outgrown=>exact hQ.elim
def dw (B G:List Nat):List (Nat×Nat):=(List.range B.length).map (fun i=>(i,B[i]?.getD 0))++(List.range G.length).map (fun i=>(4+i,G[i]?.getD 0))
def iU (B:List Nat) (nm m:Nat):List (Nat×Nat):=(List.range B.length).map (fun i=>(B[i]?.getD 0,i))++(List.range m).map (fun i=>(nm+i,4+i))
theorem get_of_mem {α:Type} {l:List (Nat×α)} {k:Nat} {x:α} (hm:(k,x) ∈ l) (hn:(l.map Prod.fst).Nodup):get l k=some x:=by
 induction l with
 |nil=>simp at hm
 |cons p l ih=>
  obtain ⟨j,y⟩:=p
  simp only [List.map_cons,List.nodup_cons] at hn
  simp only [List.mem_cons,Prod.mk.injEq] at hm
  rcases hm with ⟨rfl,rfl⟩|hm
  ·simp [get]
  ·rw [gq]
   ·exact ih hm hn.2
   ·intro e;subst e;exact hn.1 (List.mem_map.2 ⟨_,hm,rfl⟩)
theorem nJ {B G:List Nat} {k b:Nat} (h:get (dw B G) k=some b):(B[k]? =some b)\/(4<=k/\G[k - 4]? =some b):=by
 have:=get_mem h
 simp only [dw,List.mem_append,List.mem_map,List.mem_range,Prod.mk.injEq] at this
 rcases this with ⟨i,hi,rfl,rfl⟩|⟨i,hi,rfl,rfl⟩
 ·left;simp [hi]
 ·right;refine ⟨by omega,?_⟩;simp [hi]
theorem wV {B G:List Nat} {k b:Nat} (h:B[k]? =some b) (h4:B.length<=4):get (dw B G) k=some b:=by
 have hk:=(List.getElem?_eq_some_iff.1 h).1
 refine get_of_mem (List.mem_append_left _ (List.mem_map.2 ⟨k,List.mem_range.2 hk,by simp [h]⟩)) ?_
 simp only [dw,List.map_append,List.map_map]
 rw [List.nodup_append]
 refine ⟨?_,?_,?_⟩
 ·have:((fun x:Nat×Nat=>x.1)∘fun i=>(i,B[i]?.getD 0))=id:=rfl
  show (List.map ((fun x:Nat×Nat=>x.1)∘fun i=>(i,B[i]?.getD 0)) _).Nodup
  rw [this,List.map_id];exact List.nodup_range
 ·unfold List.Nodup
  rw [List.pairwise_map]
  exact List.Pairwise.imp (fun h e=>h (by simp only [Function.comp] at e;omega)) List.nodup_range
 ·intro a ha b hb
  simp only [List.mem_map,List.mem_range,Function.comp] at ha hb
  obtain ⟨i,hi,rfl⟩:=ha
  obtain ⟨j,hj,rfl⟩:=hb
  omega
theorem VK {B G:List Nat} {i b:Nat} (h:G[i]? =some b) (h4:B.length<=4):get (dw B G) (4+i)=some b:=by
 have hk:=(List.getElem?_eq_some_iff.1 h).1
 refine get_of_mem (List.mem_append_right _ (List.mem_map.2 ⟨i,List.mem_range.2 hk,by simp [h]⟩)) ?_
 simp only [dw,List.map_append,List.map_map]
 rw [List.nodup_append]
 refine ⟨?_,?_,?_⟩
 ·have:((fun x:Nat×Nat=>x.1)∘fun i=>(i,B[i]?.getD 0))=id:=rfl
  show (List.map ((fun x:Nat×Nat=>x.1)∘fun i=>(i,B[i]?.getD 0)) _).Nodup
  rw [this,List.map_id];exact List.nodup_range
 ·unfold List.Nodup
  rw [List.pairwise_map]
  exact List.Pairwise.imp (fun h e=>h (by simp only [Function.comp] at e;omega)) List.nodup_range
 ·intro a ha b hb
  simp only [List.mem_map,List.mem_range,Function.comp] at ha hb
  obtain ⟨i,hi,rfl⟩:=ha
  obtain ⟨j,hj,rfl⟩:=hb
  omega
theorem KL {B:List Nat} {nm m k i:Nat} (h:get (iU B nm m) k=some i):(B[i]? =some k)\/(nm<=k/\k<nm+m/\i=4+(k - nm)):=by
 have:=get_mem h
 simp only [iU,List.mem_append,List.mem_map,List.mem_range,Prod.mk.injEq] at this
 rcases this with ⟨j,hj,rfl,rfl⟩|⟨j,hj,rfl,rfl⟩
 ·left;simp [hj]
 ·right;omega
section
variable {P:Program} {f:FuncId} {xs ys:List AV} {bs bs' cs':List (List AV)} {gs es es':List Ob} {r r':AV} {h:List (Nat×Ob)} {B G:List Nat} {nm:Nat} {Q:AV->List (Nat×Ob)->Prop}
def isRow:Ob->Bool
 | .row _ _ _=>true
 |_=>false
theorem zS:∀ (Z:List Nat) (k:Nat),get (kills Z) k=if k ∈ Z then some .dead else none
 |[],k=>by simp [kills,get]
 |z::Z,k=>by
  have ih:=zS Z k
  simp only [kills,List.map_cons,get] at ih ⊢
  by_cases e:z=k
  ·subst e;simp
  ·rw [if_neg e,ih]
   have:(k ∈ z::Z)=(k ∈ Z):=by simp only [List.mem_cons,eq_iff_iff];exact ⟨fun h=>h.resolve_left fun h=>e h.symm,.inr⟩
   simp only [this]
theorem dW.call (hF:dW P f xs bs gs r bs' es) (ha:au [] (dw B G) [] xs ys)
 (hbl:bs.length=B.length) (hgl:gs.length=G.length) (hB4:B.length<=4) (hG4:G.length<=4) (hnd:(B++G).Nodup)
 (hb:∀ (i b:Nat),B[i]? =some b->∃ cs cs0,bs[i]? =some cs/\get h b=some (.box cs0)/\au [] (dw B G) [] cs cs0)
 (hg:∀ (i b:Nat),G[i]? =some b->∃ o,gs[i]? =some o/\get h b=some o/\isRow o=true)
 (VN:bs'.length=B.length) (hcl':cs'.length=B.length) (hb':∀ (i:Nat) (c:List AV),cs'[i]? =some c->∃ x,bs'[i]? =some x/\au [] (iU B nm es.length) [] c x)
 (hel:es'.length=es.length) (hm:es.length<=8) (he:∀ (i:Nat) (y:Ob),es'[i]? =some y->∃ x,es[i]? =some x/\aR [] (iU B nm es.length) [] y x)
 (hr':rv [] (iU B nm es.length) [] r' r) (hQ:Q r' (bS nm es'++(eH B cs'++(kills G++h)))):nE P nm f ys h Q:=by
 refine ⟨hF.1,fun C ρ U w vals hr hfr hvl=> ?_⟩
 rw [List.nodup_append] at hnd
 obtain ⟨DF,VO,VQ⟩:=hnd
 have hBG:∀ b,b ∈ B->b ∈ G->False:=fun b h1 h2=>VQ b h1 b h2 rfl
 have oL:∀ b ∈ B,U b/\∃ cs0,get h b=some (.box cs0):=fun b fB=>by
  obtain ⟨i,hi⟩:=List.mem_iff_getElem?.1 fB
  obtain ⟨cs,cs0,_,h2,_⟩:=hb i b hi
  exact ⟨(hr.hp b _ h2).1,cs0,h2⟩
 have zT:∀ b ∈ G,U b/\∃ o,get h b=some o/\isRow o=true:=fun b iV=>by
  obtain ⟨i,hi⟩:=List.mem_iff_getElem?.1 iV
  obtain ⟨o,_,h2,h3⟩:=hg i b hi
  exact ⟨(hr.hp b _ h2).1,o,h2,h3⟩
 let C':Ctx:=⟨w,ay C ρ w,(fun g=>∃ b ∈ B,∃ o n,ρ b=Loc.at g o n),(fun i=>(B[i]?).map ρ),0,(fun g hg=>by
  obtain ⟨b,fB,o,n,hl⟩:=hg
  obtain ⟨i,hi⟩:=List.mem_iff_getElem?.1 fB
  exact ⟨i,o,n,by simp [hi,hl]⟩),(fun i l hl=>by
  rcases Nat.lt_or_ge i B.length with h1|h1
  ·omega
  ·simp [List.getElem?_eq_none h1] at hl),(fun g=>∃ b ∈ G,∃ o n,ρ b=Loc.at g o n),(fun g ⟨b,iV,o,n,hl⟩ ⟨b',fB,o',n',hl'⟩=>by
  have:=hr.inj b b' g o n o' n' hl hl'
  subst this
  exact hBG b fB iV)⟩
 let ρc:Nat->Loc:=fun k=>match get (dw B G) k with|some b=>ρ b|none=> .dead
 let Uc:Nat->Prop:=fun k=>∃ b,get (dw B G) k=some b
 have mW:∀ k b,get (dw B G) k=some b->ρc k=ρ b:=fun k b hk=>by show (match get (dw B G) k with|some b=>ρ b|none=> .dead)=ρ b;rw [hk]
 have oM:∀ k g o n,ρc k= .at g o n->∃ b,get (dw B G) k=some b/\ρ b= .at g o n:=fun k g o n hk=>by
  cases hs:get (dw B G) k with
  |none=>
   have:ρc k= .dead:=by show (match get (dw B G) k with|some b=>ρ b|none=> .dead)=_;rw [hs]
   rw [this] at hk;cases hk
  |some b=>exact ⟨b,rfl,by rw [<-mW k b hs];exact hk⟩
 have hown0:∀ g,gX ρc g->gX ρ g:=fun g ⟨k,o,n,hk⟩=>by
  obtain ⟨b,_,hb⟩:=oM k g o n hk
  exact ⟨b,o,n,hb⟩
 have hok:∀ g,ay C ρ w g->ay C' ρc w g:=fun g hg=>⟨.inl hg,hg.2.1,fun ho=>hg.2.2 (hown0 g ho)⟩
 have wW:∀ k b,get (dw B G) k=some b->Uc k/\ρc k=ρ b:=fun k b hk=>⟨⟨b,hk⟩,mW k b hk⟩
 have DI:∀ k,Uc k->k<8:=fun k ⟨b,hk⟩=>by
  rcases nJ hk with h1|⟨h1,h2⟩
  ·have:=(List.getElem?_eq_some_iff.1 h1).1;omega
  ·have:=(List.getElem?_eq_some_iff.1 h2).1;omega
 have VS:∀ k,k ∈ G->¬ (nm<=k/\k<nm+8):=fun k hk=>hfr k (zT k hk).1
 have hr0:HR C' ρc Uc (outs bs gs) w:=by
  refine ⟨fun k o hk=> ?_,fun k hk=> ?_,fun k k' g o n o' n' h1 h2=> ?_,rfl,rfl,rfl,Nat.le_refl _,fun g _ _ _=>rfl,
   fun g hg=>⟨hg.2.1,fun ⟨b,_,o,n,hb⟩=>hg.2.2 ⟨b,o,n,hb⟩,fun ⟨b,_,o,n,hb⟩=>hg.2.2 ⟨b,o,n,hb⟩⟩,fun g ho=> ?_,fun i l hi=> ?_⟩
  ·unfold outs at hk
   rw [get_append,dM,gH] at hk
   simp only [Nat.zero_le,if_true,Nat.sub_zero,List.getElem?_map] at hk
   cases hbk:bs[k]? with
   |some cs=>
    rw [hbk] at hk
    simp only [Option.map_some,Option.some.injEq] at hk
    subst hk
    have hlt:k<B.length:=by rw [<-hbl];exact (List.getElem?_eq_some_iff.1 hbk).1
    have hib:B[k]? =some B[k]:=List.getElem?_eq_getElem hlt
    obtain ⟨cs1,cs0,h1,h2,h3⟩:=hb k _ hib
    rw [hbk] at h1;cases h1
    have hs:=wV (G:=G) hib hB4
    refine ⟨⟨_,hs⟩,?_⟩
    rw [mW k _ hs]
    exact (hr.hp _ _ h2).2.rn wW hok (fun _ _=>rfl) (fun _ _ _ _=>rfl) (by simp only [aR];exact h3)
   |none=>
    rw [hbk] at hk
    simp only [Option.map_none] at hk
    rw [gH] at hk
    split at hk
    ·rename_i h4
     have hlt:k - 4<G.length:=by rw [<-hgl];exact (List.getElem?_eq_some_iff.1 hk).1
     have hib:G[k - 4]? =some G[k - 4]:=List.getElem?_eq_getElem hlt
     obtain ⟨o1,h1,h2,h3⟩:=hg (k - 4) _ hib
     rw [hk] at h1;cases h1
     have hs:=VK (B:=B) hib hB4
     rw [show 4+(k - 4)=k by omega] at hs
     refine ⟨⟨_,hs⟩,?_⟩
     rw [mW k _ hs]
     refine (hr.hp _ _ h2).2.rn wW hok (fun _ _=>rfl) (fun _ _ _ _=>rfl) ?_
     cases o with
     |row e sz xs=>simp only [aR,and_self]
     |_=>simp [isRow] at h3
    ·cases hk
  ·cases hs:get (dw B G) k with
   |none=>show (match get (dw B G) k with|some b=>ρ b|none=> .dead)=_;rw [hs]
   |some b=>
    unfold outs at hk
    rw [get_append,dM,gH] at hk
    simp only [Nat.zero_le,if_true,Nat.sub_zero,List.getElem?_map] at hk
    rcases nJ hs with h1|⟨h1,h2⟩
    ·have hlt:k<bs.length:=by rw [hbl];exact (List.getElem?_eq_some_iff.1 h1).1
     rw [List.getElem?_eq_getElem hlt] at hk
     simp at hk
    ·have hlt:k - 4<gs.length:=by rw [hgl];exact (List.getElem?_eq_some_iff.1 h2).1
     have:bs[k]? =none:=List.getElem?_eq_none (by omega)
     rw [this] at hk
     simp only [Option.map_none,gH] at hk
     rw [if_pos h1,List.getElem?_eq_getElem hlt] at hk
     cases hk
  ·obtain ⟨b,hs,hl⟩:=oM k g o n h1
   obtain ⟨b',hs',hl'⟩:=oM k' g o' n' h2
   have e:=hr.inj b b' g o n o' n' hl hl'
   subst e
   rcases nJ hs with h3|⟨h3,h4⟩<;>rcases nJ hs' with h5|⟨h5,h6⟩
   ·obtain ⟨p1,q1⟩:=List.getElem?_eq_some_iff.1 h3
    obtain ⟨p2,q2⟩:=List.getElem?_eq_some_iff.1 h5
    exact (List.getElem_inj DF).1 (q1.trans q2.symm)
   ·exact (hBG b (List.mem_of_getElem? h3) (List.mem_of_getElem? h6)).elim
   ·exact (hBG b (List.mem_of_getElem? h5) (List.mem_of_getElem? h4)).elim
   ·obtain ⟨p1,q1⟩:=List.getElem?_eq_some_iff.1 h4
    obtain ⟨p2,q2⟩:=List.getElem?_eq_some_iff.1 h6
    have:=(List.getElem_inj VO).1 (q1.trans q2.symm)
    omega
  ·obtain ⟨k,o,n,hk⟩:=ho
   obtain ⟨b,hs,hl⟩:=oM k g o n hk
   refine ⟨?_,(hr.bN g ⟨b,o,n,hl⟩).2⟩
   rcases nJ hs with h3|⟨h3,h4⟩
   ·exact .inl ⟨b,List.mem_of_getElem? h3,o,n,hl⟩
   ·exact .inr (.inl ⟨b,List.mem_of_getElem? h4,o,n,hl⟩)
  ·have hlt:i<B.length:=by
    rcases Nat.lt_or_ge i B.length with h1|h1
    ·exact h1
    ·simp [C',List.getElem?_eq_none h1] at hi
   have hib:B[i]? =some B[i]:=List.getElem?_eq_getElem hlt
   obtain ⟨cs,cs1,h1,h2,h3⟩:=hb i _ hib
   have hs:=wV (G:=G) hib hB4
   refine ⟨?_,⟨_,hs⟩,cs,?_⟩
   ·rw [mW i _ hs]
    simp only [C',hib,Option.map_some,Option.some.injEq] at hi
    exact hi
   ·exact uU h1
 have sH:VL w (ay C' ρc w) ρc Uc xs vals:=by
  have hl:=fT _ _ ha
  refine ⟨by rw [hl];exact hvl.1,fun i x u hi hu=> ?_⟩
  obtain ⟨y,hy,hxy⟩:=fU _ _ ha i x hi
  exact (hvl.2 i y u hy hu).rn wW hok (fun _ _=>rfl) x hxy
 refine (hF.2 C' ρc Uc w vals hr0 DI sH).mono fun e w' hpost=> ?_
 obtain ⟨v,ρ1,U1,rfl,hr1,hv1⟩:=hpost
 let ρ2:Nat->Loc:=fun k=>if nm<=k/\k<nm+es.length then ρ1 (4+(k - nm)) else if k ∈ G then .dead else ρ k
 let U2:Nat->Prop:=fun k=>U k\/(nm<=k/\k<nm+es.length)
 have sI:∀ k,nm<=k/\k<nm+es.length->ρ2 k=ρ1 (4+(k - nm)):=fun k hk=>by show (if _ then _ else _)=_;rw [if_pos hk]
 have mX:∀ k,U k->k ∉ G->ρ2 k=ρ k:=fun k hk hG=>by
  show (if _ then _ else _)=_
  rw [if_neg (fun hh=>hfr k hk ⟨hh.1,by omega⟩),if_neg hG]
 have KM:∀ k,k ∈ G->ρ2 k= .dead:=fun k hG=>by
  show (if _ then _ else _)=_
  rw [if_neg (fun hh=>VS k hG ⟨hh.1,by omega⟩),if_pos hG]
 have hsz:w.heap.size<=w'.heap.size:=hr1.size
 have VT:∀ b ∈ G,∀ g o n,ρ b= .at g o n->(C.ext g\/C.new g)->C.new g:=fun b iV g o n hl hx=>by
  rcases hx with h1|h1
  ·obtain ⟨b',o',n',hb'⟩:=C.rO g h1
   obtain ⟨h3,_,cs,h4⟩:=hr.fix b' _ hb'
   have:=hr.inj b b' g o n o' n' hl h3
   subst this
   obtain ⟨_,o2,h5,h6⟩:=zT b iV
   rw [h5] at h4;cases h4
   simp [isRow] at h6
  ·exact h1
 have hoff:∀ i g o n,i<es.length->ρ1 (4+i)= .at g o n->((∃ b ∈ G,∃ o n,ρ b= .at g o n)\/w.heap.size<=g)/\g<w'.heap.size:=fun i g o n hi hl=>by
  obtain ⟨h1,h2⟩:=hr1.bN g ⟨_,o,n,hl⟩
  refine ⟨?_,h2⟩
  rcases h1 with h1|h1
  ·obtain ⟨b,o',n',hb⟩:=C'.rO g h1
   obtain ⟨h3,_,_⟩:=hr1.fix b _ hb
   have:=hr1.inj (4+i) b g o n o' n' hl h3
   have:=C'.wh b _ hb
   omega
  ·exact h1
 have hold:∀ k g o n,ρ k= .at g o n->g<w.heap.size:=fun k g o n hl=>(hr.bN g ⟨k,o,n,hl⟩).2
 have hheap:∀ g,g<w.heap.size->(∀ b ∈ B,∀ o n,ρ b≠.at g o n)->(∀ b ∈ G,∀ o n,ρ b≠.at g o n)->w'.heap[g]? =w.heap[g]? :=fun g hg h1 h2=>
  hr1.old g hg (fun ⟨b,fB,o,n,hl⟩=>h1 b fB o n hl) (fun ⟨b,iV,o,n,hl⟩=>h2 b iV o n hl)
 have hcase:∀ k g o n,ρ2 k= .at g o n->(∃ i,k=nm+i/\i<es.length/\ρ1 (4+i)= .at g o n)\/(k ∉ G/\ρ k= .at g o n):=fun k g o n hk=>by
  by_cases h1:nm<=k/\k<nm+es.length
  ·rw [sI k h1] at hk
   exact .inl ⟨k - nm,by omega,by omega,hk⟩
  ·have hk':(if k ∈ G then Loc.dead else ρ k)= .at g o n:=by
    have:ρ2 k=(if k ∈ G then Loc.dead else ρ k):=by show (if _ then _ else _)=_;rw [if_neg h1]
    rw [<-this];exact hk
   split at hk'
   ·cases hk'
   ·rename_i h2;exact .inr ⟨h2,hk'⟩
 have hok2:∀ g,ay C ρ w g->ay C ρ2 w' g:=fun g hg=>⟨hg.1,by have:=hg.2.1;omega,fun ⟨k,o,n,hk⟩=>by
  rcases hcase k g o n hk with ⟨i,rfl,hi,hl⟩|⟨_,hl⟩
  ·rcases (hoff i g o n hi hl).1 with ⟨b,_,o',n',hb'⟩|h1
   ·exact hg.2.2 ⟨b,o',n',hb'⟩
   ·have:=hg.2.1;omega
  ·exact hg.2.2 ⟨k,o,n,hl⟩⟩
 have qy:∀ g,ay C ρ w g->w'.heap[g]? =w.heap[g]? :=fun g hg=>hheap g hg.2.1 (fun b _ o n hl=>hg.2.2 ⟨b,o,n,hl⟩) (fun b _ o n hl=>hg.2.2 ⟨b,o,n,hl⟩)
 have lS:Later U ρ ρ2:=fun k hk=>by
  by_cases hG:k ∈ G
  ·exact .inr (KM k hG)
  ·exact .inl (mX k hk hG)
 have jf:∀ g,ay C' ρ1 w' g->ay C ρ2 w' g:=fun g hg=>by
  refine ⟨?_,hg.2.1,fun ⟨k,o,n,hk⟩=> ?_⟩
  ·rcases hg.1 with h1|⟨b,iV,o,n,hl⟩|h1
   ·exact h1.1
   ·exact .inr (VT b iV g o n hl (hr.bN g ⟨b,o,n,hl⟩).1)
   ·exact .inr (.inr (Nat.le_trans hr.size h1))
  ·rcases hcase k g o n hk with ⟨i,rfl,hi,hl⟩|⟨hG,hl⟩
   ·exact hg.2.2 ⟨_,o,n,hl⟩
   ·rcases hg.1 with h1|⟨b,iV,o',n',hl'⟩|h1
    ·exact h1.2.2 ⟨k,o,n,hl⟩
    ·have:=hr.inj k b g o n o' n' hl hl'
     subst this
     exact hG iV
    ·have:=hold k g o n hl
     have h1':w.heap.size<=g:=h1
     omega
 have hSo:∀ k i,get (iU B nm es.length) k=some i->U2 k/\ρ2 k=ρ1 i:=fun k i hk=>by
  rcases KL hk with h1|⟨h1,h2,rfl⟩
  ·have hkB:=List.mem_of_getElem? h1
   have hfx:=(hr1.fix i (ρ k) (by show (B[i]?).map ρ=_;rw [h1];rfl)).1
   exact ⟨.inl (oL k hkB).1,by rw [mX k (oL k hkB).1 (fun hG=>hBG k hkB hG),hfx]⟩
  ·exact ⟨.inr ⟨h1,h2⟩,sI k ⟨h1,h2⟩⟩
 refine ⟨v,r',_,ρ2,U2,rfl,⟨fun k o hk=> ?_,fun k hk=> ?_,fun k k' g o n o' n' h1 h2=> ?_,hr1.os.trans hr.os,hr1.tape.trans hr.tape,hr1.output.trans hr.output,Nat.le_trans hr.size hsz,
  fun g hg he hv=> ?_,hr.jb,fun g ho=> ?_,fun b l hb2=> ?_⟩,hv1.rn hSo jf (fun _ _=>rfl) r' hr',fun x u hx=>hx.mono hok2 qy (fun k hk=> .inl hk) lS,fun b hb2=> ?_,hQ⟩
 ·rw [get_append,gH] at hk
  by_cases hin:nm<=k/\k<nm+es.length
  ·have hi:k - nm<es'.length:=by omega
   rw [if_pos hin.1,List.getElem?_eq_getElem hi] at hk
   cases hk
   obtain ⟨x,hx1,hx2⟩:=he (k - nm) _ (List.getElem?_eq_getElem hi)
   refine ⟨.inr hin,?_⟩
   rw [sI k hin]
   have hgt:get (outs bs' es) (4+(k - nm))=some x:=zI (by omega) hx1
   exact (hr1.hp _ _ hgt).2.rn hSo jf (fun _ _=>rfl) (fun _ _ _ _=>rfl) hx2
  ·have hno:(if nm<=k then es'[k - nm]? else none)=none:=by
    split
    ·exact List.getElem?_eq_none (by omega)
    ·rfl
   rw [hno] at hk
   simp only [get_append] at hk
   cases hbx:get (eH B cs') k with
   |some o'=>
    rw [hbx] at hk;cases hk
    obtain ⟨i,c2,h1,h2,rfl⟩:=si B cs' k _ hbx
    have hkB:=List.mem_of_getElem? h1
    refine ⟨.inl (oL k hkB).1,?_⟩
    obtain ⟨x,hx1,hx2⟩:=hb' i c2 h2
    have hfx:=(hr1.fix i (ρ k) (by show (B[i]?).map ρ=_;rw [h1];rfl)).1
    rw [mX k (oL k hkB).1 (fun hG=>hBG k hkB hG),<-hfx]
    exact (hr1.hp i _ (uU hx1)).2.rn hSo jf (fun _ _=>rfl) (fun _ _ _ _=>rfl) (by simp only [aR];exact hx2)
   |none=>
    rw [hbx] at hk
    simp only [zS] at hk
    by_cases hG:k ∈ G
    ·rw [if_pos hG] at hk
     cases hk
     exact ⟨.inl (zT k hG).1,KM k hG⟩
    ·rw [if_neg hG] at hk
     simp only at hk
     obtain ⟨oK,ho⟩:=hr.hp k o hk
     refine ⟨.inl oK,?_⟩
     rw [mX k oK hG]
     refine dO.mono hok2 qy (fun k hk=> .inl hk) lS (fun g o n hl=>hheap g (hold k g o n hl) (fun b fB o' n' hb2=> ?_) (fun b iV o' n' hb2=> ?_)) ho
     ·have:=hr.inj k b g o n o' n' hl hb2
      subst this
      exact zJ B cs' k hbx hcl'.symm fB
     ·have:=hr.inj k b g o n o' n' hl hb2
      subst this
      exact hG iV
 ·rw [get_append,gH] at hk
  have hin:¬ (nm<=k/\k<nm+es.length):=fun hh=>by
   rw [if_pos hh.1,List.getElem?_eq_getElem (show k - nm<es'.length by omega)] at hk
   cases hk
  have hno:(if nm<=k then es'[k - nm]? else none)=none:=by
   split
   ·exact List.getElem?_eq_none (by omega)
   ·rfl
  rw [hno] at hk
  simp only [get_append] at hk
  show (if _ then _ else _)=_
  rw [if_neg hin]
  cases hbx:get (eH B cs') k with
  |some o'=>rw [hbx] at hk;cases hk
  |none=>
   rw [hbx] at hk
   simp only [zS] at hk
   by_cases hG:k ∈ G
   ·rw [if_pos hG]
   ·rw [if_neg hG] at hk ⊢
    exact hr.hd k hk
 ·rcases hcase k g o n h1 with ⟨i,rfl,hi,hl⟩|⟨hG,hl⟩<;>rcases hcase k' g o' n' h2 with ⟨i',rfl,hi',hl'⟩|⟨hG',hl'⟩
  ·have:=hr1.inj _ _ g o n o' n' hl hl'
   omega
  ·rcases (hoff i g o n hi hl).1 with ⟨b,iV,o2,n2,hb2⟩|h3
   ·have:=hr.inj k' b g o' n' o2 n2 hl' hb2
    subst this;exact (hG' iV).elim
   ·have:=hold _ g o' n' hl';omega
  ·rcases (hoff i' g o' n' hi' hl').1 with ⟨b,iV,o2,n2,hb2⟩|h3
   ·have:=hr.inj k b g o n o2 n2 hl hb2
    subst this;exact (hG iV).elim
   ·have:=hold _ g o n hl;omega
  ·exact hr.inj _ _ g o n o' n' hl hl'
 ·have hg':g<w.heap.size:=Nat.lt_of_lt_of_le hg hr.size
  rw [<-hr.old g hg he hv]
  have key:∀ b o n,ρ b≠.at g o n:=fun b o n hl=>by
   rcases (hr.bN g ⟨b,o,n,hl⟩).1 with h1|h1|h1
   ·exact he h1
   ·exact hv h1
   ·omega
  exact hheap g hg' (fun b _=>key b) (fun b _=>key b)
 ·obtain ⟨k,o,n,hk⟩:=ho
  rcases hcase k g o n hk with ⟨i,rfl,hi,hl⟩|⟨hG,hl⟩
  ·have h1:=hoff i g o n hi hl
   refine ⟨?_,h1.2⟩
   rcases h1.1 with ⟨b,iV,o2,n2,hb2⟩|h3
   ·exact (hr.bN g ⟨b,o2,n2,hb2⟩).1
   ·exact .inr (.inr (Nat.le_trans hr.size h3))
  ·exact ⟨(hr.bN g ⟨k,o,n,hl⟩).1,by have:=hold k g o n hl;omega⟩
 ·obtain ⟨h1,h2,cs0,h3⟩:=hr.fix b l hb2
  have hG:b ∉ G:=fun hG=>by
   obtain ⟨_,o,h5,h6⟩:=zT b hG
   rw [h3] at h5;cases h5
   simp [isRow] at h6
  refine ⟨by rw [mX b h2 hG];exact h1,.inl h2,?_⟩
  have hin:¬ (nm<=b/\b<nm+es.length):=fun hh=>hfr b h2 ⟨hh.1,by omega⟩
  have hno:(if nm<=b then es'[b - nm]? else none)=none:=by
   split
   ·exact List.getElem?_eq_none (by omega)
   ·rfl
  rw [get_append,gH,hno]
  simp only [get_append,zS]
  cases hbx:get (eH B cs') b with
  |some o'=>
   obtain ⟨i,c2,_,_,rfl⟩:=si B cs' b _ hbx
   exact ⟨c2,rfl⟩
  |none=>
   simp only [if_neg hG]
   exact ⟨cs0,h3⟩
 ·rcases hb2 with h1|h1
  ·exact .inl h1
  ·exact .inr ⟨h1.1,by omega⟩
end
end Go.Eng
namespace Go.Eng
open Go
section
variable {P:Program} {f:FuncId} {xs ys:List AV} {bs bs' cs':List (List AV)} {gs es es':List Ob} {r r':AV} {h:List (Nat×Ob)} {nm:Nat}
def gM (h:List (Nat×Ob)) (S:List (Nat×Nat)):List Nat->List (List AV)->Prop
 |[],[]=>True
 |b::B,cs::bs=>(match get h b with
  |some (.box cs0)=>au [] S [] cs cs0
  |_=>False)/\gM h S B bs
 |_,_=>False
def gP (h:List (Nat×Ob)):List Nat->List Ob->Prop
 |[],[]=>True
 |b::G,o::gs=>(get h b=some o/\isRow o=true)/\gP h G gs
 |_,_=>False
def jF (S:List (Nat×Nat)):List (List AV)->List (List AV)->Prop
 |[],[]=>True
 |c::cs,x::xs=>au [] S [] c x/\jF S cs xs
 |_,_=>False
def jG (S:List (Nat×Nat)):List Ob->List Ob->Prop
 |[],[]=>True
 |c::cs,x::xs=>aR [] S [] c x/\jG S cs xs
 |_,_=>False
theorem KN {S:List (Nat×Nat)}:∀ (B:List Nat) (bs:List (List AV)),gM h S B bs->bs.length=B.length/\∀ (i b:Nat),B[i]? =some b->∃ cs cs0,bs[i]? =some cs/\get h b=some (.box cs0)/\au [] S [] cs cs0
 |[],[],_=>⟨rfl,fun i b hi=>by simp at hi⟩
 |b::B,cs::bs,hx=>by
  simp only [gM] at hx
  obtain ⟨h1,h2⟩:=KN B bs hx.2
  refine ⟨by simp [h1],fun i c hi=> ?_⟩
  cases i with
  |zero=>
   simp at hi;subst hi
   obtain ⟨h3,_⟩:=hx
   split at h3
   ·rename_i cs0 hc;exact ⟨cs,cs0,rfl,hc,h3⟩
   ·exact h3.elim
  |succ i=>simpa using h2 i c (by simpa using hi)
 |[],_::_,hx=>by simp [gM] at hx
 |_::_,[],hx=>by simp [gM] at hx
theorem KO:∀ (G:List Nat) (gs:List Ob),gP h G gs->gs.length=G.length/\∀ (i b:Nat),G[i]? =some b->∃ o,gs[i]? =some o/\get h b=some o/\isRow o=true
 |[],[],_=>⟨rfl,fun i b hi=>by simp at hi⟩
 |b::G,o::gs,hx=>by
  simp only [gP] at hx
  obtain ⟨h1,h2⟩:=KO G gs hx.2
  refine ⟨by simp [h1],fun i c hi=> ?_⟩
  cases i with
  |zero=>simp at hi;subst hi;exact ⟨o,rfl,hx.1.1,hx.1.2⟩
  |succ i=>simpa using h2 i c (by simpa using hi)
 |[],_::_,hx=>by simp [gP] at hx
 |_::_,[],hx=>by simp [gP] at hx
theorem KP {S:List (Nat×Nat)}:∀ (cs xs:List (List AV)),jF S cs xs->cs.length=xs.length/\∀ (i:Nat) (c:List AV),cs[i]? =some c->∃ x,xs[i]? =some x/\au [] S [] c x
 |[],[],_=>⟨rfl,fun i b hi=>by simp at hi⟩
 |c::cs,x::xs,hx=>by
  simp only [jF] at hx
  obtain ⟨h1,h2⟩:=KP cs xs hx.2
  refine ⟨by simp [h1],fun i b hi=> ?_⟩
  cases i with
  |zero=>simp at hi;subst hi;exact ⟨x,rfl,hx.1⟩
  |succ i=>simpa using h2 i b (by simpa using hi)
 |[],_::_,hx=>by simp [jF] at hx
 |_::_,[],hx=>by simp [jF] at hx
theorem KQ {S:List (Nat×Nat)}:∀ (cs xs:List Ob),jG S cs xs->cs.length=xs.length/\∀ (i:Nat) (c:Ob),cs[i]? =some c->∃ x,xs[i]? =some x/\aR [] S [] c x
 |[],[],_=>⟨rfl,fun i b hi=>by simp at hi⟩
 |c::cs,x::xs,hx=>by
  simp only [jG] at hx
  obtain ⟨h1,h2⟩:=KQ cs xs hx.2
  refine ⟨by simp [h1],fun i b hi=> ?_⟩
  cases i with
  |zero=>simp at hi;subst hi;exact ⟨x,rfl,hx.1⟩
  |succ i=>simpa using h2 i b (by simpa using hi)
 |[],_::_,hx=>by simp [jG] at hx
 |_::_,[],hx=>by simp [jG] at hx
theorem KR {h':List (Nat×Ob)} {S:List (Nat×Nat)}:∀ (B:List Nat) (bs:List (List AV)),(∀ b ∈ B,get h' b=get h b)->gM h S B bs->gM h' S B bs
 |[],[],_,_=>by simp [gM]
 |b::B,cs::bs,he,hx=>by
  simp only [gM] at hx ⊢
  rw [he b (by simp)]
  exact ⟨hx.1,KR B bs (fun c hc=>he c (by simp [hc])) hx.2⟩
 |[],_::_,_,hx=>by simp [gM] at hx
 |_::_,[],_,hx=>by simp [gM] at hx
theorem KS {h':List (Nat×Ob)}:∀ (G:List Nat) (gs:List Ob),(∀ b ∈ G,get h' b=get h b)->gP h G gs->gP h' G gs
 |[],[],_,_=>by simp [gP]
 |b::G,o::gs,he,hx=>by
  simp only [gP] at hx ⊢
  rw [he b (by simp)]
  exact ⟨hx.1,KS G gs (fun c hc=>he c (by simp [hc])) hx.2⟩
 |[],_::_,_,hx=>by simp [gP] at hx
 |_::_,[],_,hx=>by simp [gP] at hx
theorem dW.sG (hF:dW P f xs bs gs r bs' es) (B G:List Nat) (r':AV) (cs':List (List AV)) (es':List Ob) (ha:au [] (dw B G) [] xs ys) (hb:gM h (dw B G) B bs) (hg:gP h G gs)
 (hd:(decide (B.length<=4)&&(decide (G.length<=4)&&(decide ((B++G).Nodup)&&(decide (bs'.length=B.length)&&decide (es.length<=8)))))=true)
 (hb':jF (iU B nm es.length) cs' bs') (he:jG (iU B nm es.length) es' es) (hr:rv [] (iU B nm es.length) [] r' r):
 iR P nm f ys h ⟨r',bS nm es'++(eH B cs'++kills G),B++G⟩:=by
 intro h' hh Q hQ
 simp only [Bool.and_eq_true,decide_eq_true_eq] at hd
 obtain ⟨h1,h2,h3,h4,h5⟩:=hd
 obtain ⟨b1,b2⟩:=KN B bs (KR (h':=h') B bs (fun b hb=>hh b (by simp [hb])) hb)
 obtain ⟨g1,g2⟩:=KO G gs (KS (h':=h') G gs (fun b hb=>hh b (by simp [hb])) hg)
 obtain ⟨o1,o2⟩:=KP cs' bs' hb'
 obtain ⟨e1,e2⟩:=KQ es' es he
 refine hF.call ha b1 g1 h1 h2 h3 b2 g2 h4 (o1.trans h4) o2 e1 h5 e2 hr ?_
 simpa only [List.append_assoc] using hQ
theorem wX {k:List It} {Q:Exit->St->Prop} {n n':Nat} {t:List (Nat×AV)} {d:Option Nat} {l:List av} (hF:dW P f xs bs gs r bs' es) (B G:List Nat) (r':AV) (cs':List (List AV)) (es':List Ob)
 (ha:au [] (dw B G) [] xs ys) (hb:gM h (dw B G) B bs) (hg:gP h G gs)
 (hd:(decide (B.length<=4)&&(decide (G.length<=4)&&(decide ((B++G).Nodup)&&(decide (bs'.length=B.length)&&decide (es.length<=8)))))=true)
 (hb':jF (iU B nm es.length) cs' bs') (he:jG (iU B nm es.length) es' es) (hr:rv [] (iU B nm es.length) [] r' r)
 (hk:go P (.ops (nm+8) n' l::k) Q n (aV t d r') ((bS nm es'++(eH B cs'++kills G))++h)):lQ P nm f ys d n' l k Q n t h:=
 uV (hF.sG B G r' cs' es' ha hb hg hd hb' he hr) hk
end
end Go.Eng
namespace Go.Eng
open Go
mutual
theorem VU {h h':List (Nat×Ob)} {Z:List Nat} (he:∀ b ∈ Z,get h' b=get h b):∀ (x y:AV),(∀ b ∈ deep y,b ∈ Z)->rv h [] [] x y->rv h' (stay h' Z) [] x y
 | .own k sz off len,y,_,hx=>by
  unfold rv at hx
  split at hx
  ·simp [get] at hx
  ·simp at hx
  ·exact hx.elim
 | .ptr k j,y,_,hx=>by
  unfold rv at hx
  split at hx
  ·simp [get] at hx
  ·exact hx.elim
 | .rp ..,y,_,hx=>by
  unfold rv at hx
  split at hx
  ·simp [get] at hx
  ·exact hx.elim
 | .mp ..,y,_,hx=>by
  unfold rv at hx
  split at hx
  ·simp [get] at hx
  ·exact hx.elim
 | .v _,y,_,hx=>by unfold rv at hx ⊢;exact hx
 | .sl sz ys,y,hh,hx=>by
  cases y with
  |own b sz' off' len=>
   simp only [deep,List.mem_singleton,forall_eq] at hh
   simp only [rv,he b hh] at hx ⊢
   refine ⟨fun hm=> ?_,hx.2⟩
   obtain ⟨c,hc⟩:=List.mem_map.1 hm
   simp only [stay,List.mem_map,List.mem_filter] at hc
   obtain ⟨⟨k,⟨_,hk2⟩,rfl⟩,rfl⟩:=hc
   simp [hh] at hk2
  |v a=>
   unfold rv at hx ⊢
   split at hx
   ·rename_i e;cases e
   ·rename_i e;cases e;exact hx
   ·rename_i e;cases e
   ·exact hx.elim
  |_=>simp only [rv] at hx ⊢<;>exact hx
 | .bB cs j,y,hh,hx=>by
  cases y with
  |rp b sz i j'=>
   simp only [deep,List.mem_singleton,forall_eq] at hh
   simp only [rv,he b hh] at hx ⊢
   refine ⟨fun hm=> ?_,hx.2⟩
   obtain ⟨c,hc⟩:=List.mem_map.1 hm
   simp only [stay,List.mem_map,List.mem_filter] at hc
   obtain ⟨⟨k,⟨_,hk2⟩,rfl⟩,rfl⟩:=hc
   simp [hh] at hk2
  |_=>simp only [rv] at hx ⊢<;>exact hx
 | .agg ys,y,hh,hx=>by
  cases y<;>unfold rv at hx ⊢<;>try exact hx
  exact u6 he ys _ (by simpa only [deep] using hh) hx
 | .aN ys,y,hh,hx=>by
  cases y<;>unfold rv at hx ⊢<;>try exact hx
  exact u6 he ys _ (by simpa only [deep] using hh) hx
 | .fn f ys,y,hh,hx=>by
  cases y<;>unfold rv at hx ⊢<;>try exact hx
  exact ⟨hx.1,u6 he ys _ (by simpa only [deep] using hh) hx.2⟩
theorem u6 {h h':List (Nat×Ob)} {Z:List Nat} (he:∀ b ∈ Z,get h' b=get h b):∀ (xs ys:List AV),(∀ b ∈ bX ys,b ∈ Z)->au h [] [] xs ys->au h' (stay h' Z) [] xs ys
 |[],[],_,_=>by simp only [au]
 |x::xs,y::ys,hh,hx=>by
  simp only [au] at hx ⊢
  simp only [bX,List.mem_append] at hh
  exact ⟨VU he x y (fun b hb=>hh b (.inl hb)) hx.1,u6 he xs ys (fun b hb=>hh b (.inr hb)) hx.2⟩
 |[],_::_,_,hx=>by simp only [au] at hx
 |_::_,[],_,hx=>by simp only [au] at hx
end
section
variable {P:Program} {f:FuncId} {xs ys:List AV} {r:AV} {es:List Ob} {h:List (Nat×Ob)} {nm:Nat}
def lU (h:List (Nat×Ob)):List Nat->Bool
 |[]=>true
 |b::Z=>(match get h b with
  |some (.row _ _ _)=>true
  |_=>false)&&lU h Z
theorem zU:∀ (Z:List Nat),lU h Z=true->∀ b ∈ Z,∃ e sz xs,get h b=some (.row e sz xs)
 |[],_,b,hb=>by simp at hb
 |z::Z,hz,b,hb=>by
  simp only [lU,Bool.and_eq_true] at hz
  rcases List.mem_cons.1 hb with rfl|hb
  ·obtain ⟨h1,_⟩:=hz
   split at h1
   ·rename_i e sz xs hx;exact ⟨e,sz,xs,hx⟩
   ·cases h1
  ·exact zU Z hz.2 b hb
theorem Fn.KT (hF:Fn P f xs [] r [] []) (hp:bf xs=true) (hr:r.pure=true) (ha:au h [] [] xs ys) (hz:lU h (bX ys)=true):iR P nm f ys h ⟨r,kills (bX ys),bX ys⟩:=by
 intro h' hh Q hQ
 refine KJ (bX ys) (fun b hb=> ?_) (u6 (h:=h) hh xs ys (fun b hb=>hb) ha) ((hF.zR hp hr).use hQ)
 obtain ⟨e,sz,xs,hx⟩:=zU _ hz b hb
 exact ⟨e,sz,xs,by rw [hh b hb];exact hx⟩
theorem zV {k:List It} {Q:Exit->St->Prop} {n n':Nat} {t:List (Nat×AV)} {d:Option Nat} {l:List av} (hF:Fn P f xs [] r [] []) (ha:au h [] [] xs ys) (hz:lU h (bX ys)=true) (hp:bf xs=true) (hr:r.pure=true)
 (hk:go P (.ops (nm+8) n' l::k) Q n (aV t d r) (kills (bX ys)++h)):lQ P nm f ys d n' l k Q n t h:=uV (hF.KT hp hr ha hz) hk
theorem DJ {k:List It} {Q:Exit->St->Prop} {n n':Nat} {t:List (Nat×AV)} {d:Option Nat} {l ops:List av} {acc:List aW} (hF:Fn P f xs [] r [] []) (ha:au h [] [] xs ys) (hz:lU h (bX ys)=true) (hp:bf xs=true) (hr:r.pure=true)
 (hk:go P (.bC (nm+8) n' l ops ((bX ys,(kills (bX ys)).map Prod.fst)::acc)::k) Q n (aV t d r) (kills (bX ys)++h)):qw P nm f ys d n' l ops acc k Q n t h:=KC (hF.KT hp hr ha hz) hk
theorem Fn.DK (hF:Fn P f xs [] r [] es) (hp:bf xs=true) (hes:es.all rowOk=true) (hm:es.length<=8) (hx:bZ es.length r=true):iR P nm f xs h ⟨sh nm r,bS nm es,[]⟩:=by
 have:=hF.sG (h:=h) nm [] [] (uY xs hp) (by simp only [mU]) (by simp) (by simp) rfl (by simp only [mV]) hes hm hx
 simpa only [eH,List.append_nil] using this
theorem nK {k:List It} {Q:Exit->St->Prop} {n n':Nat} {t:List (Nat×AV)} {d:Option Nat} {l:List av} (hF:Fn P f xs [] r [] es) (hp:bf xs=true) (hes:es.all rowOk=true) (hm:es.length<=8) (hx:bZ es.length r=true)
 (hk:go P (.ops (nm+8) n' l::k) Q n (aV t d (sh nm r)) (bS nm es++h)):lQ P nm f xs d n' l k Q n t h:=uV (hF.DK hp hes hm hx) hk
end
attribute [go_sem] bS
end Go.Eng
