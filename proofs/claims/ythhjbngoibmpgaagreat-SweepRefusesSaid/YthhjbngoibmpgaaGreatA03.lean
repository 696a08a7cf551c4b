/-
  Part of a proof: lemmas and definitions of this work.
  No condition.
-/
import Derived.Test.YthhjbngoibmpgaaGreatA02
import Derived.Test.YthhjbngoibmpgaaGreatA00
import Derived.Below
import Derived.DataReads
set_option linter.all false
set_option maxRecDepth 100000
set_option maxHeartbeats 8000000
namespace Go.Eng
open Go
def dB:Nat->List Ob->List (Nat×Ob)
 |_,[]=>[]
 |k,o::l=>(k,o)::dB (k+1) l
def gG (k:Nat) (bs:List (List AV)):List (Nat×Ob):=dB k (bs.map .box)
def gq:List Nat->List (List AV)->List (Nat×Ob)
 |b::B,cs::bs=>(b,.box cs)::gq B bs
 |_,_=>[]
def outs (bs:List (List AV)) (es:List Ob):List (Nat×Ob):=gG 0 bs++dB 4 es
mutual
def sh (nm:Nat):AV->AV
 | .own k sz off len=> .own (nm+(k - 4)) sz off len
 | .ptr k j=> .ptr (nm+(k - 4)) j
 | .agg cs=> .agg (kP nm cs)
 | .aF cs=> .aF (kP nm cs)
 | .fn f cs=> .fn f (kP nm cs)
 |x=>x
def kP (nm:Nat):List AV->List AV
 |[]=>[]
 |c::cs=>sh nm c::kP nm cs
end
mutual
def dX (m:Nat):AV->Bool
 | .v _=>true
 | .sl _ _=>true
 | .dG _ _=>true
 | .own k _ _ _=>decide (4<=k)&&decide (k<4+m)
 | .ptr k _=>decide (4<=k)&&decide (k<4+m)
 | .agg cs=>mO m cs
 | .aF cs=>mO m cs
 | .fn _ cs=>mO m cs
 |_=>false
def mO (m:Nat):List AV->Bool
 |[]=>true
 |c::cs=>dX m c&&mO m cs
end
mutual
def na:AV->Bool
 | .v _=>true
 | .own _ _ _ _=>true
 | .agg cs=>jP cs
 | .aF cs=>jP cs
 | .fn _ cs=>jP cs
 |_=>false
def jP:List AV->Bool
 |[]=>true
 |c::cs=>na c&&jP cs
end
theorem nT (nm:Nat):∀ (cs:List AV) (i:Nat) (c:AV),(kP nm cs)[i]? =some c->∃ x,cs[i]? =some x/\c=sh nm x
 |[],i,c,h=>by simp [kP] at h
 |x::cs,0,c,h=>by simp [kP] at h;exact ⟨x,rfl,h.symm⟩
 |x::cs,i+1,c,h=>by
  simp only [kP,List.getElem?_cons_succ] at h
  simpa using nT nm cs i c h
theorem nU (nm:Nat):∀ (cs:List AV),(kP nm cs).length=cs.length
 |[]=>rfl
 |x::cs=>by simp [kP,nU nm cs]
theorem xP {m:Nat}:∀ (cs:List AV),mO m cs=true->∀ (i:Nat) (c:AV),cs[i]? =some c->dX m c=true
 |[],_,i,c,h=>by simp at h
 |x::cs,hh,0,c,h=>by simp only [mO,Bool.and_eq_true] at hh;simp at h;subst h;exact hh.1
 |x::cs,hh,i+1,c,h=>by simp only [mO,Bool.and_eq_true] at hh;exact xP cs hh.2 i c (by simpa using h)
theorem mP:∀ (cs:List AV),jP cs=true->∀ (i:Nat) (c:AV),cs[i]? =some c->na c=true
 |[],_,i,c,h=>by simp at h
 |x::cs,hh,0,c,h=>by simp only [jP,Bool.and_eq_true] at hh;simp at h;subst h;exact hh.1
 |x::cs,hh,i+1,c,h=>by simp only [jP,Bool.and_eq_true] at hh;exact mP cs hh.2 i c (by simpa using h)
theorem jg:∀ (l:List Ob) (k j:Nat),get (dB k l) j=if k<=j then l[j - k]? else none
 |[],k,j=>by simp [dB]
 |o::l,k,j=>by
  simp only [dB,get]
  by_cases e:k=j
  ·subst e;simp
  ·rw [if_neg e,jg l (k+1) j]
   by_cases h:k<=j
   ·rw [if_pos h,if_pos (show k+1<=j by omega)]
    have:j - k=(j - (k+1))+1:=by omega
    rw [this,List.getElem?_cons_succ]
   ·rw [if_neg h,if_neg (by omega)]
theorem get_append {α:Type} (us t:List (Nat×α)) (k:Nat):get (us++t) k=match get us k with
 |some x=>some x
 |none=>get t k:=by
 induction us with
 |nil=>rfl
 |cons p us ih=>
  obtain ⟨a,b⟩:=p
  simp only [List.cons_append,get]
  split
  ·rfl
  ·exact ih
theorem Ab {bs:List (List AV)} {es:List Ob} {i:Nat} {cs:List AV} (h:bs[i]? =some cs):get (outs bs es) i=some (.box cs):=by
 simp [outs,get_append,gG,jg,h]
theorem HV {bs:List (List AV)} {es:List Ob} {i:Nat} {o:Ob} (hb:bs.length<=4) (h:es[i]? =some o):get (outs bs es) (4+i)=some o:=by
 have:(bs.map Ob.box)[4+i]? =none:=by rw [List.getElem?_map,List.getElem?_eq_none (by omega)];rfl
 simp only [outs,get_append,gG,jg,Nat.zero_le,if_true,Nat.sub_zero,this]
 rw [if_pos (by omega)]
 have:4+i - 4=i:=by omega
 rw [this,h]
theorem xQ:∀ (B:List Nat) (bs:List (List AV)) (k:Nat) (o:Ob),get (gq B bs) k=some o->∃ (i:Nat) (cs:List AV),B[i]? =some k/\bs[i]? =some cs/\o= .box cs
 |[],bs,k,o,h=>by simp [gq,get] at h
 |b::B,[],k,o,h=>by simp [gq,get] at h
 |b::B,cs::bs,k,o,h=>by
  simp only [gq,get] at h
  split at h
  ·rename_i e;cases h;subst e;exact ⟨0,cs,rfl,rfl,rfl⟩
  ·obtain ⟨i,cs',h1,h2,h3⟩:=xQ B bs k o h
   exact ⟨i+1,cs',by simpa using h1,by simpa using h2,h3⟩
theorem HY:∀ (B:List Nat) (bs:List (List AV)) (k:Nat),get (gq B bs) k=none->B.length=bs.length->k ∉ B
 |[],bs,k,h,hl=>by simp
 |b::B,[],k,h,hl=>by simp at hl
 |b::B,cs::bs,k,h,hl=>by
  simp only [gq,get] at h
  split at h
  ·cases h
  ·rename_i e
   have:=HY B bs k h (by simpa using hl)
   simp only [List.mem_cons,not_or]
   exact ⟨fun h=>e h.symm,this⟩
section
variable {w w':World} {ok ok':Nat->Prop} {ρ ρ':Nat->Loc} {U U':Nat->Prop}
theorem fM.mono (hok:∀ g,ok g->ok' g) (hw:∀ g,ok g->w'.heap[g]? =w.heap[g]?) (hU:∀ b,U b->U' b) (hρ:Later U ρ ρ') {l:Loc} {o:Ob}
 (hl:∀ g o n,l= .at g o n->w'.heap[g]? =w.heap[g]?) (ho:fM w ok ρ U l o):fM w' ok' ρ' U' l o:=by
 cases o with
 |box cs=>
  obtain ⟨g,o,n,e,cells,h1,h2,h3,h4,h5⟩:=ho
  refine ⟨g,o,n,e,cells,h1,(hl g o n h1).trans h2,h3,h4,fun j c hj=> ?_⟩
  obtain ⟨u,hu,hv⟩:=h5 j c hj
  exact ⟨u,hu,hv.mono hok hw hU hρ⟩
 |row e sz xs=>
  rcases ho with ho|⟨g,o,n,cells,h1,h2,h3,h4,h5,h6⟩
  ·exact .inl ho
  ·refine .inr ⟨g,o,n,cells,h1,(hl g o n h1).trans h2,h3,h4,h5,fun k x j c hk hj=> ?_⟩
   obtain ⟨u,hu,h1c,hv⟩:=h6 k x j c hk hj
   exact ⟨u,hu,h1c,hv.mono hok hw⟩
 |map es=>
  obtain ⟨g,dz,clock,h1,h2,h3,h4⟩:=ho
  exact ⟨g,dz,clock,h1,(hl g 0 0 h1).trans h2,h3,fun i k c m hi he=>⟨(h4 i k c m hi he).1,(h4 i k c m hi he).2.mono hok hw hU hρ⟩⟩
 |dead=>exact ho
theorem VP.na {x:AV} {u:Value} (h:VP w ok x u):Eng.na x=true->VP w' ok' x u:=by
 induction h with
 |v x=>intro _;exact .v x
 |agg hl _ ih=>intro hn;exact .agg hl fun i c u h1 h2=>ih i c u h1 h2 (mP _ (by simpa [Eng.na] using hn) i c h1)
 |aF hl _ ih=>intro hn;exact .aF hl fun i c u h1 h2=>ih i c u h1 h2 (mP _ (by simpa [Eng.na] using hn) i c h1)
 |fn hf hl _ ih=>intro hn;exact .fn hf hl fun i c u h1 h2=>ih i c u h1 h2 (mP _ (by simpa [Eng.na] using hn) i c h1)
 |mD h hc ih=>intro hn;simp [Eng.na,jP] at hn
 |fZ=>intro hn;simp [Eng.na] at hn
 |sl=>intro hn;simp [Eng.na] at hn
 |dG=>intro hn;simp [Eng.na] at hn
theorem VR.sh {nm m:Nat} (hok:∀ g,ok g->ok' g) (hρ:∀ i,i<m->ρ' (nm+i)=ρ (4+i)) (hU:∀ i,i<m->U' (nm+i)) {x:AV} {u:Value} (h:VR w ok ρ U x u):
 dX m x=true->VR w ok' ρ' U' (Eng.sh nm x) u:=by
 have kp:∀ {x:AV} {u:Value},VP w ok x u->VR w ok' ρ' U' (Eng.sh nm x) u:=fun h=>by
  induction h with
  |v x=>exact .p (.v x)
  |agg hl _ ih=>
   refine .agg (by rw [nU];exact hl) fun i c u h1 h2=> ?_
   obtain ⟨x,hx,rfl⟩:=nT nm _ i c h1
   exact ih i x u hx h2
  |aF hl _ ih=>
   refine .aF (by rw [nU];exact hl) fun i c u h1 h2=> ?_
   obtain ⟨x,hx,rfl⟩:=nT nm _ i c h1
   exact ih i x u hx h2
  |fn hf hl _ ih=>
   refine .fn hf (by rw [nU];exact hl) fun i c u h1 h2=> ?_
   obtain ⟨x,hx,rfl⟩:=nT nm _ i c h1
   exact ih i x u hx h2
  |mD h hc ih=>exact .p (.mD (h.mono hok (fun _ _=>rfl)) hc)
  |fZ=>exact .p .fZ
  |sl a n cap f h1 h2 h3 h4 h5 h6=>exact .p ((VP.sl a n cap f h1 h2 h3 h4 h5 h6).mono hok (fun _ _=>rfl))
  |dG g o f h1 h2 h3=>exact .p ((VP.dG g o f h1 h2 h3).mono hok (fun _ _=>rfl))
 induction h with
 |p h=>intro _;exact kp h
 |agg hl _ ih=>
  intro he
  refine .agg (by rw [nU];exact hl) fun i c u h1 h2=> ?_
  obtain ⟨x,hx,rfl⟩:=nT nm _ i c h1
  exact ih i x u hx h2 (xP _ (by simpa [dX] using he) i x hx)
 |aF hl _ ih=>
  intro he
  refine .aF (by rw [nU];exact hl) fun i c u h1 h2=> ?_
  obtain ⟨x,hx,rfl⟩:=nT nm _ i c h1
  exact ih i x u hx h2 (xP _ (by simpa [dX] using he) i x hx)
 |fn hf hl _ ih=>
  intro he
  refine .fn hf (by rw [nU];exact hl) fun i c u h1 h2=> ?_
  obtain ⟨x,hx,rfl⟩:=nT nm _ i c h1
  exact ih i x u hx h2 (xP _ (by simpa [dX] using he) i x hx)
 |own hu h=>
  intro he
  simp only [dX,Bool.and_eq_true,decide_eq_true_eq] at he
  rename_i b sz off len u
  have e:4+(b - 4)=b:=by omega
  refine .own (hU _ (by omega)) ?_
  rw [hρ _ (by omega),e]
  exact h
 |ptr a hu h=>
  intro he
  simp only [dX,Bool.and_eq_true,decide_eq_true_eq] at he
  rename_i b j
  have e:4+(b - 4)=b:=by omega
  refine .ptr a (hU _ (by omega)) ?_
  rw [hρ _ (by omega),e]
  exact h
 |rp=>intro he;simp [dX] at he
 |mp=>intro he;simp [dX] at he
theorem VR.Y1 {nm m:Nat} (hρ:∀ i,i<m->ρ' (nm+i)=ρ (4+i)) (hU:∀ i,i<m->U' (nm+i)) {x:AV} {u:Value} (h:VR w ok ρ U x u):
 dX m x=true->Eng.na x=true->VR w' ok' ρ' U' (Eng.sh nm x) u:=by
 have kp:∀ {x:AV} {u:Value},VP w ok x u->Eng.na x=true->VR w' ok' ρ' U' (Eng.sh nm x) u:=fun h=>by
  induction h with
  |v x=>intro _;exact .p (.v x)
  |agg hl _ ih=>
   intro hn
   refine .agg (by rw [nU];exact hl) fun i c u h1 h2=> ?_
   obtain ⟨x,hx,rfl⟩:=nT nm _ i c h1
   exact ih i x u hx h2 (mP _ (by simpa [Eng.na] using hn) i x hx)
  |aF hl _ ih=>
   intro hn
   refine .aF (by rw [nU];exact hl) fun i c u h1 h2=> ?_
   obtain ⟨x,hx,rfl⟩:=nT nm _ i c h1
   exact ih i x u hx h2 (mP _ (by simpa [Eng.na] using hn) i x hx)
  |fn hf hl _ ih=>
   intro hn
   refine .fn hf (by rw [nU];exact hl) fun i c u h1 h2=> ?_
   obtain ⟨x,hx,rfl⟩:=nT nm _ i c h1
   exact ih i x u hx h2 (mP _ (by simpa [Eng.na] using hn) i x hx)
  |mD h hc ih=>intro hn;simp [Eng.na,jP] at hn
  |fZ=>intro hn;simp [Eng.na] at hn
  |sl=>intro hn;simp [Eng.na] at hn
  |dG=>intro hn;simp [Eng.na] at hn
 induction h with
 |p h=>intro _ hn;exact kp h hn
 |agg hl _ ih=>
  intro he hn
  refine .agg (by rw [nU];exact hl) fun i c u h1 h2=> ?_
  obtain ⟨x,hx,rfl⟩:=nT nm _ i c h1
  exact ih i x u hx h2 (xP _ (by simpa [dX] using he) i x hx) (mP _ (by simpa [Eng.na] using hn) i x hx)
 |aF hl _ ih=>
  intro he hn
  refine .aF (by rw [nU];exact hl) fun i c u h1 h2=> ?_
  obtain ⟨x,hx,rfl⟩:=nT nm _ i c h1
  exact ih i x u hx h2 (xP _ (by simpa [dX] using he) i x hx) (mP _ (by simpa [Eng.na] using hn) i x hx)
 |fn hf hl _ ih=>
  intro he hn
  refine .fn hf (by rw [nU];exact hl) fun i c u h1 h2=> ?_
  obtain ⟨x,hx,rfl⟩:=nT nm _ i c h1
  exact ih i x u hx h2 (xP _ (by simpa [dX] using he) i x hx) (mP _ (by simpa [Eng.na] using hn) i x hx)
 |own hu h=>
  intro he hn
  simp only [dX,Bool.and_eq_true,decide_eq_true_eq] at he
  rename_i b sz off len u
  have e:4+(b - 4)=b:=by omega
  refine .own (hU _ (by omega)) ?_
  rw [hρ _ (by omega),e]
  exact h
 |ptr=>intro he hn;simp [Eng.na] at hn
 |rp=>intro he;simp [dX] at he
 |mp=>intro he;simp [dX] at he
end
end Go.Eng
namespace Go.Eng
open Go
inductive It where
 |ops (nm n:Nat) (l:List aG)
 |code (c:eY)
 |blk (id:Nat)
 |lp (B:St->Prop)
 |cO (nm n:Nat) (l ops:List aG) (acc:List bQ)
def jh (P:Program) (Q:Exit->St->Prop):List It->St->Prop
 |[]=>Q .normal
 | .ops nm n l::k=>fun s=>wpOps P nm l s.t s.h fun t h=>jh P Q k ⟨n,t,h⟩
 | .code c::k=>fun s=>iq P c (fun e s'=>match e with
  | .normal=>jh P Q k s'
  | .exit id=>gW P Q id k s'
  |e=>Q e s') s
 | .blk _::k=>jh P Q k
 | .lp B::_=>B
 | .cO nm n l ops acc::k=>fun s=>kN P nm l acc s.t s.h fun acc t h=>rT ops acc.reverse=true/\jh P Q k ⟨n,t,h⟩
where
 gW (P:Program) (Q:Exit->St->Prop) (id:Nat):List It->St->Prop
 |[]=>Q (.exit id)
 | .blk i::k=>if i=id then jh P Q k else gW P Q id k
 | .ops .. ::k=>gW P Q id k
 | .code _::k=>gW P Q id k
 | .lp _::k=>gW P Q id k
 | .cO .. ::k=>gW P Q id k
def go (P:Program) (k:List It) (Q:Exit->St->Prop) (n:Nat) (t:List (Nat×AV)) (h:List (Nat×Ob)):Prop:=jh P Q k ⟨n,t,h⟩
def gW (P:Program) (id:Nat) (k:List It) (Q:Exit->St->Prop) (n:Nat) (t:List (Nat×AV)) (h:List (Nat×Ob)):Prop:=jh.gW P Q id k ⟨n,t,h⟩
def xR (P:Program) (c:Option AV) (x y:eY) (k:List It) (Q:Exit->St->Prop) (n:Nat) (t:List (Nat×AV)) (h:List (Nat×Ob)):Prop:=
 qF c (fun b=>Split b (go P (.code x::k) Q n t h) (go P (.code y::k) Q n t h)) False
def fw (P:Program) (e:Option E) (op:gm) (d:Option Nat) (nm n':Nat) (l:List aG) (k:List It) (Q:Exit->St->Prop) (n:Nat) (t:List (Nat×AV)) (h:List (Nat×Ob)):Prop:=
 vF nm t h op e fun t h e=>go P (.ops (nm+8) n' l::k) Q n (bP t d e.val) (e.upd++h)
def nW (P:Program) (nm:Nat) (f:FuncId) (args:List AV) (d:Option Nat) (n':Nat) (l:List aG) (k:List It) (Q:Exit->St->Prop) (n:Nat) (t:List (Nat×AV)) (h:List (Nat×Ob)):Prop:=
 rR P nm f args h fun r h'=>go P (.ops (nm+8) n' l::k) Q n (bP t d r) h'
def goC (P:Program) (f:Option AV) (args:Option (List AV)) (d:Option Nat) (nm n':Nat) (l:List aG) (k:List It) (Q:Exit->St->Prop) (n:Nat) (t:List (Nat×AV)) (h:List (Nat×Ob)):Prop:=
 j6 f args fun g xs=>nW P nm g xs d n' l k Q n t h
def O5 (P:Program) (x:Option (Option Bool)) (neg:Bool) (d:Option Nat) (nm n':Nat) (l:List aG) (k:List It) (Q:Exit->St->Prop) (n:Nat) (t:List (Nat×AV)) (h:List (Nat×Ob)):Prop:=
 GY x fun b=>go P (.ops (nm+8) n' l::k) Q n (bP t d (.v (.bool (if neg then !b else b)))) h
def nX (P:Program) (c:Option AV) (o:aG) (w:Bool) (nm n':Nat) (l:List aG) (k:List It) (Q:Exit->St->Prop) (n:Nat) (t:List (Nat×AV)) (h:List (Nat×Ob)):Prop:=
 qF c (fun b=>Split b
  (bif w then go P (.ops nm n' ({o with guard:=none}::l)::k) Q n t h else go P (.ops (nm+8) n' l::k) Q n (bP t o.dst (.v undef)) h)
  (bif w then go P (.ops (nm+8) n' l::k) Q n (bP t o.dst (.v undef)) h else go P (.ops nm n' ({o with guard:=none}::l)::k) Q n t h))
  (go P (.ops (nm+8) n' l::k) Q n (bP t o.dst (.v undef)) h)
def fA (P:Program) (e:Option E) (rd:List Nat) (d:Option Nat) (nm n':Nat) (l ops:List aG) (acc:List bQ) (k:List It) (Q:Exit->St->Prop) (n:Nat) (t:List (Nat×AV)) (h:List (Nat×Ob)):Prop:=
 onE e fun e=>go P (.cO (nm+8) n' l ops ((rd,e.upd.map Prod.fst)::acc)::k) Q n (bP t d e.val) (e.upd++h)
def nY (P:Program) (nm:Nat) (f:FuncId) (args:List AV) (d:Option Nat) (n':Nat) (l ops:List aG) (acc:List bQ) (k:List It) (Q:Exit->St->Prop) (n:Nat) (t:List (Nat×AV)) (h:List (Nat×Ob)):Prop:=
 ∃ r,jH P nm f args h r/\go P (.cO (nm+8) n' l ops ((r.rd,r.upd.map Prod.fst)::acc)::k) Q n (bP t d r.val) (r.upd++h)
def Y2 (P:Program) (f:Option AV) (args:Option (List AV)) (d:Option Nat) (nm n':Nat) (l ops:List aG) (acc:List bQ) (k:List It) (Q:Exit->St->Prop) (n:Nat) (t:List (Nat×AV)) (h:List (Nat×Ob)):Prop:=
 j6 f args fun g xs=>nY P nm g xs d n' l ops acc k Q n t h
def Y3 (P:Program) (x:Option (Option Bool)) (neg:Bool) (d:Option Nat) (nm n':Nat) (l ops:List aG) (acc:List bQ) (k:List It) (Q:Exit->St->Prop) (n:Nat) (t:List (Nat×AV)) (h:List (Nat×Ob)):Prop:=
 Oj x fun b=>go P (.cO (nm+8) n' l ops (([],[])::acc)::k) Q n (bP t d (.v (.bool (if neg then !b else b)))) h
def nZ (P:Program) (c:Option AV) (o:aG) (w:Bool) (nm n':Nat) (l ops:List aG) (acc:List bQ) (k:List It) (Q:Exit->St->Prop) (n:Nat) (t:List (Nat×AV)) (h:List (Nat×Ob)):Prop:=
 qF c (fun b=>Split b
  (bif w then go P (.cO nm n' ({o with guard:=none}::l) ops acc::k) Q n t h else go P (.cO (nm+8) n' l ops (([],[])::acc)::k) Q n (bP t o.dst (.v undef)) h)
  (bif w then go P (.cO (nm+8) n' l ops (([],[])::acc)::k) Q n (bP t o.dst (.v undef)) h else go P (.cO nm n' ({o with guard:=none}::l) ops acc::k) Q n t h))
  (go P (.cO (nm+8) n' l ops (([],[])::acc)::k) Q n (bP t o.dst (.v undef)) h)
section eqs
variable {P:Program} {k:List It} {Q:Exit->St->Prop} {n:Nat} {t:List (Nat×AV)} {h:List (Nat×Ob)}
theorem afg:go P [] Q n t h=Q .normal ⟨n,t,h⟩:=(rfl)
theorem O6 (a b:eY):go P (.code (.seq a b)::k) Q n t h=go P (.code a:: .code b::k) Q n t h:=by
 simp only [go,jh,iq]
 congr 1
 funext e s
 cases e<;>rfl
theorem go_skip:go P (.code .skip::k) Q n t h=go P k Q n t h:=(rfl)
theorem O7 (id:Nat):go P (.code (.exit id)::k) Q n t h=gW P id k Q n t h:=(rfl)
theorem go_ret:go P (.code .ret::k) Q n t h=Q .ret ⟨n,t,h⟩:=(rfl)
theorem afh (id:Nat):go P (.blk id::k) Q n t h=go P k Q n t h:=(rfl)
theorem afi (B:St->Prop):go P (.lp B::k) Q n t h=B ⟨n,t,h⟩:=(rfl)
theorem O8 (id i:Nat):gW P id (.blk i::k) Q n t h=if i=id then go P k Q n t h else gW P id k Q n t h:=by
 simp only [gW,jh.gW,go];split<;>rfl
theorem afj (id nm n':Nat) (l:List aG):gW P id (.ops nm n' l::k) Q n t h=gW P id k Q n t h:=(rfl)
theorem afk (id:Nat) (c:eY):gW P id (.code c::k) Q n t h=gW P id k Q n t h:=(rfl)
theorem O9 (id:Nat) (B:St->Prop):gW P id (.lp B::k) Q n t h=gW P id k Q n t h:=(rfl)
theorem HZ (id:Nat) (c:eY):go P (.code (.block id c)::k) Q n t h=go P (.code c:: .blk id::k) Q n t h:=by
 simp only [go,jh,iq]
 congr 1
 funext e s
 cases e<;>try rfl
 rename_i i
 simp only [BM,jh.gW]
 by_cases hi:i=id
 ·simp [hi]
 ·have:¬ id=i:=fun h=>hi h.symm
  simp [hi,this]
theorem go_region (ops:List aG):go P (.code (.region ops false)::k) Q n t h=go P (.ops n (n+8*ops.length) ops::k) Q n t h:=by
 simp [go,jh,iq]
theorem afl (c:Operand) (x y:eY):go P (.code (.cond c x y)::k) Q n t h=xR P (ev t c) x y k Q n t h:=(rfl)
theorem afm (x y:eY):xR P (some (.v (.bool true))) x y k Q n t h=go P (.code x::k) Q n t h:=by simp [xR,pF,BG]
theorem afn (x y:eY):xR P (some (.v (.bool false))) x y k Q n t h=go P (.code y::k) Q n t h:=by simp [xR,pF,BH]
theorem bC {b:Bool} {x y:eY} (h1:b=true->go P (.code x::k) Q n t h) (h2:b=false->go P (.code y::k) Q n t h):xR P (some (.v (.bool b))) x y k Q n t h:=⟨h1,h2⟩
theorem afo (nm n':Nat):go P (.ops nm n' []::k) Q n t h=go P k Q n' t h:=(rfl)
theorem afp (d:Option Nat) (x:Operand) (af:List Nat) (nm n':Nat) (l:List aG):go P (.ops nm n' (⟨d,.jE x,none,af⟩::l)::k) Q n t h=fw P (aL nm t h (.jE x)) (.jE x) d nm n' l k Q n t h:=(rfl)
theorem afq (d:Option Nat) (c a b:Operand) (af:List Nat) (nm n':Nat) (l:List aG):go P (.ops nm n' (⟨d,.pick c a b,none,af⟩::l)::k) Q n t h=fw P (aL nm t h (.pick c a b)) (.pick c a b) d nm n' l k Q n t h:=(rfl)
theorem afr (d:Option Nat) (zs:List Value) (af:List Nat) (nm n':Nat) (l:List aG):go P (.ops nm n' (⟨d,.alloc zs,none,af⟩::l)::k) Q n t h=fw P (aL nm t h (.alloc zs)) (.alloc zs) d nm n' l k Q n t h:=(rfl)
theorem afs (d:Option Nat) (x:Operand) (af:List Nat) (nm n':Nat) (l:List aG):go P (.ops nm n' (⟨d,.box x,none,af⟩::l)::k) Q n t h=fw P (aL nm t h (.box x)) (.box x) d nm n' l k Q n t h:=(rfl)
theorem aft (d:Option Nat) (zs:List Value) (parts:List (Nat×Nat×Operand)) (af:List Nat) (nm n':Nat) (l:List aG):go P (.ops nm n' (⟨d,.build zs parts,none,af⟩::l)::k) Q n t h=fw P (aL nm t h (.build zs parts)) (.build zs parts) d nm n' l k Q n t h:=(rfl)
theorem afu (d:Option Nat) (e:TypeId) (sz:Nat) (zs:List Value) (len:Nat) (parts:List (Nat×Operand)) (af:List Nat) (nm n':Nat) (l:List aG):go P (.ops nm n' (⟨d,.lq e sz zs len parts,none,af⟩::l)::k) Q n t h=fw P (aL nm t h (.lq e sz zs len parts)) (.lq e sz zs len parts) d nm n' l k Q n t h:=(rfl)
theorem afv (d:Option Nat) (ag:Bool) (sz:Nat) (x:Operand) (af:List Nat) (nm n':Nat) (l:List aG):go P (.ops nm n' (⟨d,.load ag sz x,none,af⟩::l)::k) Q n t h=fw P (aL nm t h (.load ag sz x)) (.load ag sz x) d nm n' l k Q n t h:=(rfl)
theorem afw (d:Option Nat) (sz:Nat) (x y:Operand) (af:List Nat) (nm n':Nat) (l:List aG):go P (.ops nm n' (⟨d,.store sz x y,none,af⟩::l)::k) Q n t h=fw P (aL nm t h (.store sz x y)) (.store sz x y) d nm n' l k Q n t h:=(rfl)
theorem afx (d:Option Nat) (x:Operand) (af:List Nat) (nm n':Nat) (l:List aG):go P (.ops nm n' (⟨d,.pu x,none,af⟩::l)::k) Q n t h=fw P (aL nm t h (.pu x)) (.pu x) d nm n' l k Q n t h:=(rfl)
theorem afy (d:Option Nat) (op:BinOp) (x y:Operand) (af:List Nat) (nm n':Nat) (l:List aG):go P (.ops nm n' (⟨d,.bin op x y,none,af⟩::l)::k) Q n t h=fw P (aL nm t h (.bin op x y)) (.bin op x y) d nm n' l k Q n t h:=(rfl)
theorem afz (d:Option Nat) (neg:Bool) (ks:List Nat) (x y:Operand) (af:List Nat) (nm n':Nat) (l:List aG):go P (.ops nm n' (⟨d,.eqs neg ks x y,none,af⟩::l)::k) Q n t h=fw P (aL nm t h (.eqs neg ks x y)) (.eqs neg ks x y) d nm n' l k Q n t h:=(rfl)
theorem afA (d:Option Nat) (op:UnOp) (x:Operand) (af:List Nat) (nm n':Nat) (l:List aG):go P (.ops nm n' (⟨d,.un op x,none,af⟩::l)::k) Q n t h=fw P (aL nm t h (.un op x)) (.un op x) d nm n' l k Q n t h:=(rfl)
theorem afB (d:Option Nat) (q:IntKind) (x:Operand) (af:List Nat) (nm n':Nat) (l:List aG):go P (.ops nm n' (⟨d,.conv q x,none,af⟩::l)::k) Q n t h=fw P (aL nm t h (.conv q x)) (.conv q x) d nm n' l k Q n t h:=(rfl)
theorem afC (d:Option Nat) (e:TypeId) (x:Operand) (af:List Nat) (nm n':Nat) (l:List aG):go P (.ops nm n' (⟨d,.vC e x,none,af⟩::l)::k) Q n t h=fw P (aL nm t h (.vC e x)) (.vC e x) d nm n' l k Q n t h:=(rfl)
theorem afD (d:Option Nat) (x:Operand) (af:List Nat) (nm n':Nat) (l:List aG):go P (.ops nm n' (⟨d,.mE x,none,af⟩::l)::k) Q n t h=fw P (aL nm t h (.mE x)) (.mE x) d nm n' l k Q n t h:=(rfl)
theorem afE (d:Option Nat) (f:FuncId) (caps:List Operand) (af:List Nat) (nm n':Nat) (l:List aG):go P (.ops nm n' (⟨d,.qB f caps,none,af⟩::l)::k) Q n t h=fw P (aL nm t h (.qB f caps)) (.qB f caps) d nm n' l k Q n t h:=(rfl)
theorem afF (d:Option Nat) (af:List Nat) (nm n':Nat) (l:List aG):go P (.ops nm n' (⟨d,.rO,none,af⟩::l)::k) Q n t h=fw P (aL nm t h (.rO)) (.rO) d nm n' l k Q n t h:=(rfl)
theorem afG (d:Option Nat) (z:Value) (m x:Operand) (af:List Nat) (nm n':Nat) (l:List aG):go P (.ops nm n' (⟨d,.look z m x,none,af⟩::l)::k) Q n t h=fw P (aL nm t h (.look z m x)) (.look z m x) d nm n' l k Q n t h:=(rfl)
theorem afH (d:Option Nat) (m x y:Operand) (af:List Nat) (nm n':Nat) (l:List aG):go P (.ops nm n' (⟨d,.lN m x y,none,af⟩::l)::k) Q n t h=fw P (aL nm t h (.lN m x y)) (.lN m x y) d nm n' l k Q n t h:=(rfl)
theorem afI (d:Option Nat) (e:TypeId) (sz bytes:Nat) (zs:List Value) (a c:Operand) (af:List Nat) (nm n':Nat) (l:List aG):go P (.ops nm n' (⟨d,.nH e sz bytes zs a c,none,af⟩::l)::k) Q n t h=fw P (aL nm t h (.nH e sz bytes zs a c)) (.nH e sz bytes zs a c) d nm n' l k Q n t h:=(rfl)
theorem afJ (d:Option Nat) (sz:Nat) (x:Operand) (lo hi mx:Option Operand) (af:List Nat) (nm n':Nat) (l:List aG):go P (.ops nm n' (⟨d,.slice sz x lo hi mx,none,af⟩::l)::k) Q n t h=fw P (aL nm t h (.slice sz x lo hi mx)) (.slice sz x lo hi mx) d nm n' l k Q n t h:=(rfl)
theorem afK (d:Option Nat) (x:Operand) (lo hi:Option Operand) (af:List Nat) (nm n':Nat) (l:List aG):go P (.ops nm n' (⟨d,.mF x lo hi,none,af⟩::l)::k) Q n t h=fw P (aL nm t h (.mF x lo hi)) (.mF x lo hi) d nm n' l k Q n t h:=(rfl)
theorem afL (d:Option Nat) (off:Nat) (x:Operand) (af:List Nat) (nm n':Nat) (l:List aG):go P (.ops nm n' (⟨d,.lu off x,none,af⟩::l)::k) Q n t h=fw P (aL nm t h (.lu off x)) (.lu off x) d nm n' l k Q n t h:=(rfl)
theorem afM (d:Option Nat) (ag:Bool) (off sz:Nat) (x:Operand) (af:List Nat) (nm n':Nat) (l:List aG):go P (.ops nm n' (⟨d,.qC ag off sz x,none,af⟩::l)::k) Q n t h=fw P (aL nm t h (.qC ag off sz x)) (.qC ag off sz x) d nm n' l k Q n t h:=(rfl)
theorem afN (d:Option Nat) (sz:Nat) (x i:Operand) (af:List Nat) (nm n':Nat) (l:List aG):go P (.ops nm n' (⟨d,.nI sz x i,none,af⟩::l)::k) Q n t h=fw P (aL nm t h (.nI sz x i)) (.nI sz x i) d nm n' l k Q n t h:=(rfl)
theorem afO (d:Option Nat) (len sz:Nat) (x i:Operand) (af:List Nat) (nm n':Nat) (l:List aG):go P (.ops nm n' (⟨d,.nJ len sz x i,none,af⟩::l)::k) Q n t h=fw P (aL nm t h (.nJ len sz x i)) (.nJ len sz x i) d nm n' l k Q n t h:=(rfl)
theorem afP (d:Option Nat) (ag:Bool) (len sz:Nat) (x i:Operand) (af:List Nat) (nm n':Nat) (l:List aG):go P (.ops nm n' (⟨d,.idx ag len sz x i,none,af⟩::l)::k) Q n t h=fw P (aL nm t h (.idx ag len sz x i)) (.idx ag len sz x i) d nm n' l k Q n t h:=(rfl)
theorem afQ (d:Option Nat) (x i:Operand) (af:List Nat) (nm n':Nat) (l:List aG):go P (.ops nm n' (⟨d,.idxs x i,none,af⟩::l)::k) Q n t h=fw P (aL nm t h (.idxs x i)) (.idxs x i) d nm n' l k Q n t h:=(rfl)
theorem afR (d:Option Nat) (x:Operand) (af:List Nat) (nm n':Nat) (l:List aG):go P (.ops nm n' (⟨d,.len x,none,af⟩::l)::k) Q n t h=fw P (aL nm t h (.len x)) (.len x) d nm n' l k Q n t h:=(rfl)
theorem afS (d:Option Nat) (x:Operand) (af:List Nat) (nm n':Nat) (l:List aG):go P (.ops nm n' (⟨d,.cap x,none,af⟩::l)::k) Q n t h=fw P (aL nm t h (.cap x)) (.cap x) d nm n' l k Q n t h:=(rfl)
theorem afT (d:Option Nat) (e:TypeId) (sz bytes:Nat) (zs:List Value) (x y:Operand) (af:List Nat) (nm n':Nat) (l:List aG):go P (.ops nm n' (⟨d,.app e sz bytes zs x y,none,af⟩::l)::k) Q n t h=fw P (aL nm t h (.app e sz bytes zs x y)) (.app e sz bytes zs x y) d nm n' l k Q n t h:=(rfl)
theorem afU (d:Option Nat) (sz:Nat) (zs:List Value) (x:Operand) (af:List Nat) (nm n':Nat) (l:List aG):go P (.ops nm n' (⟨d,.nL sz zs x,none,af⟩::l)::k) Q n t h=fw P (aL nm t h (.nL sz zs x)) (.nL sz zs x) d nm n' l k Q n t h:=(rfl)
theorem afV (d:Option Nat) (sz:Nat) (x y:Operand) (af:List Nat) (nm n':Nat) (l:List aG):go P (.ops nm n' (⟨d,.copy sz x y,none,af⟩::l)::k) Q n t h=fw P (aL nm t h (.copy sz x y)) (.copy sz x y) d nm n' l k Q n t h:=(rfl)
theorem afW (d:Option Nat) (i:Nat) (x:Operand) (af:List Nat) (nm n':Nat) (l:List aG):go P (.ops nm n' (⟨d,.ext i x,none,af⟩::l)::k) Q n t h=fw P (aL nm t h (.ext i x)) (.ext i x) d nm n' l k Q n t h:=(rfl)
theorem afX (d:Option Nat) (mx:Bool) (xs:List Operand) (af:List Nat) (nm n':Nat) (l:List aG):go P (.ops nm n' (⟨d,.pE mx xs,none,af⟩::l)::k) Q n t h=fw P (aL nm t h (.pE mx xs)) (.pE mx xs) d nm n' l k Q n t h:=(rfl)
theorem afY (d:Option Nat) (neg:Bool) (x:Operand) (af:List Nat) (nm n':Nat) (l:List aG):go P (.ops nm n' (⟨d,.lM neg x,none,af⟩::l)::k) Q n t h=O5 P (vD (ev t x)) neg d nm n' l k Q n t h:=(rfl)
theorem afZ (b neg:Bool) (d:Option Nat) (nm n':Nat) (l:List aG):O5 P (some (some b)) neg d nm n' l k Q n t h=go P (.ops (nm+8) n' l::k) Q n (bP t d (.v (.bool (if neg then !b else b)))) h:=(rfl)
theorem af0 (neg:Bool) (d:Option Nat) (nm n':Nat) (l:List aG):O5 P (some none) neg d nm n' l k Q n t h=
 (go P (.ops (nm+8) n' l::k) Q n (bP t d (.v (.bool (if neg then !true else true)))) h/\go P (.ops (nm+8) n' l::k) Q n (bP t d (.v (.bool (if neg then !false else false)))) h):=(rfl)
theorem af2 (d:Option Nat) (e:TypeId) (sz bytes:Nat) (zs:List Value) (x y:Operand) (af:List Nat) (nm n':Nat) (l:List aG):go P (.ops nm n' (⟨d,.nK e sz bytes zs x y,none,af⟩::l)::k) Q n t h=fw P (aL nm t h (.nK e sz bytes zs x y)) (.nK e sz bytes zs x y) d nm n' l k Q n t h:=(rfl)
theorem af3 (d:Option Nat) (neg:Bool) (x y:Operand) (af:List Nat) (nm n':Nat) (l:List aG):go P (.ops nm n' (⟨d,.pz neg x y,none,af⟩::l)::k) Q n t h=fw P (aL nm t h (.pz neg x y)) (.pz neg x y) d nm n' l k Q n t h:=(rfl)
theorem af4 (d:Option Nat) (x:Operand) (af:List Nat) (nm n':Nat) (l:List aG):go P (.ops nm n' (⟨d,.qD x,none,af⟩::l)::k) Q n t h=fw P (aL nm t h (.qD x)) (.qD x) d nm n' l k Q n t h:=(rfl)
theorem go_call (d:Option Nat) (f:Operand) (args:List Operand) (af:List Nat) (nm n':Nat) (l:List aG):
 go P (.ops nm n' (⟨d,.call f args,none,af⟩::l)::k) Q n t h=goC P (ev t f) (jZ t args) d nm n' l k Q n t h:=(rfl)
theorem af5 (d:Option Nat) (op:gm) (g:Nat) (w:Bool) (af:List Nat) (nm n':Nat) (l:List aG):
 go P (.ops nm n' (⟨d,op,some (g,w),af⟩::l)::k) Q n t h=nX P (get t g) ⟨d,op,none,af⟩ w nm n' l k Q n t h:=by
 cases w<;>rfl
theorem af6 (e:E) (op:gm) (d:Option Nat) (nm n':Nat) (l:List aG):
 fw P (some e) op d nm n' l k Q n t h=(e.pre/\go P (.ops (nm+8) n' l::k) Q n (bP t d e.val) (e.upd++h)):=(rfl)
theorem af7 (g:FuncId) (caps xs:List AV) (d:Option Nat) (nm n':Nat) (l:List aG):
 goC P (some (.fn g caps)) (some xs) d nm n' l k Q n t h=if g<1000000 then nW P nm g (xs++caps) d n' l k Q n t h else if g<2000000 then nW P nm (g - 1000000) (caps++xs) d n' l k Q n t h else False:=(rfl)
theorem af8 (o:aG) (w:Bool) (nm n':Nat) (l:List aG):
 nX P (some (.v undef)) o w nm n' l k Q n t h=go P (.ops (nm+8) n' l::k) Q n (bP t o.dst (.v undef)) h:=(rfl)
theorem af9 (o:aG) (nm n':Nat) (l:List aG):
 nX P (some (.v (.bool true))) o true nm n' l k Q n t h=go P (.ops nm n' ({o with guard:=none}::l)::k) Q n t h:=by simp [nX,pF,BG]
theorem aga (o:aG) (nm n':Nat) (l:List aG):
 nX P (some (.v (.bool true))) o false nm n' l k Q n t h=go P (.ops (nm+8) n' l::k) Q n (bP t o.dst (.v undef)) h:=by simp [nX,pF,BG]
theorem agb (o:aG) (nm n':Nat) (l:List aG):
 nX P (some (.v (.bool false))) o true nm n' l k Q n t h=go P (.ops (nm+8) n' l::k) Q n (bP t o.dst (.v undef)) h:=by simp [nX,pF,BH]
theorem agc (o:aG) (nm n':Nat) (l:List aG):
 nX P (some (.v (.bool false))) o false nm n' l k Q n t h=go P (.ops nm n' ({o with guard:=none}::l)::k) Q n t h:=by simp [nX,pF,BH]
theorem dD {b:Bool} {o:aG} {w:Bool} {nm n':Nat} {l:List aG}
 (h1:b=true->nX P (some (.v (.bool true))) o w nm n' l k Q n t h) (h2:b=false->nX P (some (.v (.bool false))) o w nm n' l k Q n t h):
 nX P (some (.v (.bool b))) o w nm n' l k Q n t h:=by
 cases b
 ·exact h2 rfl
 ·exact h1 rfl
theorem agd (d:Option Nat) (x:Operand) (af:List Nat) (nm n':Nat) (l ops:List aG) (acc:List bQ):go P (.cO nm n' (⟨d,.jE x,none,af⟩::l) ops acc::k) Q n t h=fA P (aL nm t h (.jE x)) (dK t (.jE x)) d nm n' l ops acc k Q n t h:=(rfl)
theorem agf (d:Option Nat) (c a b:Operand) (af:List Nat) (nm n':Nat) (l ops:List aG) (acc:List bQ):go P (.cO nm n' (⟨d,.pick c a b,none,af⟩::l) ops acc::k) Q n t h=fA P (aL nm t h (.pick c a b)) (dK t (.pick c a b)) d nm n' l ops acc k Q n t h:=(rfl)
theorem agh (d:Option Nat) (zs:List Value) (af:List Nat) (nm n':Nat) (l ops:List aG) (acc:List bQ):go P (.cO nm n' (⟨d,.alloc zs,none,af⟩::l) ops acc::k) Q n t h=fA P (aL nm t h (.alloc zs)) (dK t (.alloc zs)) d nm n' l ops acc k Q n t h:=(rfl)
theorem agi (d:Option Nat) (x:Operand) (af:List Nat) (nm n':Nat) (l ops:List aG) (acc:List bQ):go P (.cO nm n' (⟨d,.box x,none,af⟩::l) ops acc::k) Q n t h=fA P (aL nm t h (.box x)) (dK t (.box x)) d nm n' l ops acc k Q n t h:=(rfl)
theorem agj (d:Option Nat) (zs:List Value) (parts:List (Nat×Nat×Operand)) (af:List Nat) (nm n':Nat) (l ops:List aG) (acc:List bQ):go P (.cO nm n' (⟨d,.build zs parts,none,af⟩::l) ops acc::k) Q n t h=fA P (aL nm t h (.build zs parts)) (dK t (.build zs parts)) d nm n' l ops acc k Q n t h:=(rfl)
theorem agk (d:Option Nat) (e:TypeId) (sz:Nat) (zs:List Value) (len:Nat) (parts:List (Nat×Operand)) (af:List Nat) (nm n':Nat) (l ops:List aG) (acc:List bQ):go P (.cO nm n' (⟨d,.lq e sz zs len parts,none,af⟩::l) ops acc::k) Q n t h=fA P (aL nm t h (.lq e sz zs len parts)) (dK t (.lq e sz zs len parts)) d nm n' l ops acc k Q n t h:=(rfl)
theorem agl (d:Option Nat) (ag:Bool) (sz:Nat) (x:Operand) (af:List Nat) (nm n':Nat) (l ops:List aG) (acc:List bQ):go P (.cO nm n' (⟨d,.load ag sz x,none,af⟩::l) ops acc::k) Q n t h=fA P (aL nm t h (.load ag sz x)) (dK t (.load ag sz x)) d nm n' l ops acc k Q n t h:=(rfl)
theorem agm (d:Option Nat) (sz:Nat) (x y:Operand) (af:List Nat) (nm n':Nat) (l ops:List aG) (acc:List bQ):go P (.cO nm n' (⟨d,.store sz x y,none,af⟩::l) ops acc::k) Q n t h=fA P (aL nm t h (.store sz x y)) (dK t (.store sz x y)) d nm n' l ops acc k Q n t h:=(rfl)
theorem agn (d:Option Nat) (x:Operand) (af:List Nat) (nm n':Nat) (l ops:List aG) (acc:List bQ):go P (.cO nm n' (⟨d,.pu x,none,af⟩::l) ops acc::k) Q n t h=fA P (aL nm t h (.pu x)) (dK t (.pu x)) d nm n' l ops acc k Q n t h:=(rfl)
theorem agp (d:Option Nat) (op:BinOp) (x y:Operand) (af:List Nat) (nm n':Nat) (l ops:List aG) (acc:List bQ):go P (.cO nm n' (⟨d,.bin op x y,none,af⟩::l) ops acc::k) Q n t h=fA P (aL nm t h (.bin op x y)) (dK t (.bin op x y)) d nm n' l ops acc k Q n t h:=(rfl)
theorem agq (d:Option Nat) (neg:Bool) (ks:List Nat) (x y:Operand) (af:List Nat) (nm n':Nat) (l ops:List aG) (acc:List bQ):go P (.cO nm n' (⟨d,.eqs neg ks x y,none,af⟩::l) ops acc::k) Q n t h=fA P (aL nm t h (.eqs neg ks x y)) (dK t (.eqs neg ks x y)) d nm n' l ops acc k Q n t h:=(rfl)
theorem agr (d:Option Nat) (op:UnOp) (x:Operand) (af:List Nat) (nm n':Nat) (l ops:List aG) (acc:List bQ):go P (.cO nm n' (⟨d,.un op x,none,af⟩::l) ops acc::k) Q n t h=fA P (aL nm t h (.un op x)) (dK t (.un op x)) d nm n' l ops acc k Q n t h:=(rfl)
theorem ags (d:Option Nat) (q:IntKind) (x:Operand) (af:List Nat) (nm n':Nat) (l ops:List aG) (acc:List bQ):go P (.cO nm n' (⟨d,.conv q x,none,af⟩::l) ops acc::k) Q n t h=fA P (aL nm t h (.conv q x)) (dK t (.conv q x)) d nm n' l ops acc k Q n t h:=(rfl)
theorem agt (d:Option Nat) (e:TypeId) (x:Operand) (af:List Nat) (nm n':Nat) (l ops:List aG) (acc:List bQ):go P (.cO nm n' (⟨d,.vC e x,none,af⟩::l) ops acc::k) Q n t h=fA P (aL nm t h (.vC e x)) (dK t (.vC e x)) d nm n' l ops acc k Q n t h:=(rfl)
theorem agu (d:Option Nat) (x:Operand) (af:List Nat) (nm n':Nat) (l ops:List aG) (acc:List bQ):go P (.cO nm n' (⟨d,.mE x,none,af⟩::l) ops acc::k) Q n t h=fA P (aL nm t h (.mE x)) (dK t (.mE x)) d nm n' l ops acc k Q n t h:=(rfl)
theorem agv (d:Option Nat) (f:FuncId) (caps:List Operand) (af:List Nat) (nm n':Nat) (l ops:List aG) (acc:List bQ):go P (.cO nm n' (⟨d,.qB f caps,none,af⟩::l) ops acc::k) Q n t h=fA P (aL nm t h (.qB f caps)) (dK t (.qB f caps)) d nm n' l ops acc k Q n t h:=(rfl)
theorem agw (d:Option Nat) (af:List Nat) (nm n':Nat) (l ops:List aG) (acc:List bQ):go P (.cO nm n' (⟨d,.rO,none,af⟩::l) ops acc::k) Q n t h=fA P (aL nm t h (.rO)) (dK t (.rO)) d nm n' l ops acc k Q n t h:=(rfl)
theorem agx (d:Option Nat) (z:Value) (m x:Operand) (af:List Nat) (nm n':Nat) (l ops:List aG) (acc:List bQ):go P (.cO nm n' (⟨d,.look z m x,none,af⟩::l) ops acc::k) Q n t h=fA P (aL nm t h (.look z m x)) (dK t (.look z m x)) d nm n' l ops acc k Q n t h:=(rfl)
theorem agy (d:Option Nat) (m x y:Operand) (af:List Nat) (nm n':Nat) (l ops:List aG) (acc:List bQ):go P (.cO nm n' (⟨d,.lN m x y,none,af⟩::l) ops acc::k) Q n t h=fA P (aL nm t h (.lN m x y)) (dK t (.lN m x y)) d nm n' l ops acc k Q n t h:=(rfl)
theorem agz (d:Option Nat) (e:TypeId) (sz bytes:Nat) (zs:List Value) (a c:Operand) (af:List Nat) (nm n':Nat) (l ops:List aG) (acc:List bQ):go P (.cO nm n' (⟨d,.nH e sz bytes zs a c,none,af⟩::l) ops acc::k) Q n t h=fA P (aL nm t h (.nH e sz bytes zs a c)) (dK t (.nH e sz bytes zs a c)) d nm n' l ops acc k Q n t h:=(rfl)
theorem agA (d:Option Nat) (sz:Nat) (x:Operand) (lo hi mx:Option Operand) (af:List Nat) (nm n':Nat) (l ops:List aG) (acc:List bQ):go P (.cO nm n' (⟨d,.slice sz x lo hi mx,none,af⟩::l) ops acc::k) Q n t h=fA P (aL nm t h (.slice sz x lo hi mx)) (dK t (.slice sz x lo hi mx)) d nm n' l ops acc k Q n t h:=(rfl)
theorem agB (d:Option Nat) (x:Operand) (lo hi:Option Operand) (af:List Nat) (nm n':Nat) (l ops:List aG) (acc:List bQ):go P (.cO nm n' (⟨d,.mF x lo hi,none,af⟩::l) ops acc::k) Q n t h=fA P (aL nm t h (.mF x lo hi)) (dK t (.mF x lo hi)) d nm n' l ops acc k Q n t h:=(rfl)
theorem agC (d:Option Nat) (off:Nat) (x:Operand) (af:List Nat) (nm n':Nat) (l ops:List aG) (acc:List bQ):go P (.cO nm n' (⟨d,.lu off x,none,af⟩::l) ops acc::k) Q n t h=fA P (aL nm t h (.lu off x)) (dK t (.lu off x)) d nm n' l ops acc k Q n t h:=(rfl)
theorem agD (d:Option Nat) (ag:Bool) (off sz:Nat) (x:Operand) (af:List Nat) (nm n':Nat) (l ops:List aG) (acc:List bQ):go P (.cO nm n' (⟨d,.qC ag off sz x,none,af⟩::l) ops acc::k) Q n t h=fA P (aL nm t h (.qC ag off sz x)) (dK t (.qC ag off sz x)) d nm n' l ops acc k Q n t h:=(rfl)
theorem agE (d:Option Nat) (sz:Nat) (x i:Operand) (af:List Nat) (nm n':Nat) (l ops:List aG) (acc:List bQ):go P (.cO nm n' (⟨d,.nI sz x i,none,af⟩::l) ops acc::k) Q n t h=fA P (aL nm t h (.nI sz x i)) (dK t (.nI sz x i)) d nm n' l ops acc k Q n t h:=(rfl)
theorem agF (d:Option Nat) (len sz:Nat) (x i:Operand) (af:List Nat) (nm n':Nat) (l ops:List aG) (acc:List bQ):go P (.cO nm n' (⟨d,.nJ len sz x i,none,af⟩::l) ops acc::k) Q n t h=fA P (aL nm t h (.nJ len sz x i)) (dK t (.nJ len sz x i)) d nm n' l ops acc k Q n t h:=(rfl)
theorem agG (d:Option Nat) (ag:Bool) (len sz:Nat) (x i:Operand) (af:List Nat) (nm n':Nat) (l ops:List aG) (acc:List bQ):go P (.cO nm n' (⟨d,.idx ag len sz x i,none,af⟩::l) ops acc::k) Q n t h=fA P (aL nm t h (.idx ag len sz x i)) (dK t (.idx ag len sz x i)) d nm n' l ops acc k Q n t h:=(rfl)
theorem agH (d:Option Nat) (x i:Operand) (af:List Nat) (nm n':Nat) (l ops:List aG) (acc:List bQ):go P (.cO nm n' (⟨d,.idxs x i,none,af⟩::l) ops acc::k) Q n t h=fA P (aL nm t h (.idxs x i)) (dK t (.idxs x i)) d nm n' l ops acc k Q n t h:=(rfl)
theorem agI (d:Option Nat) (x:Operand) (af:List Nat) (nm n':Nat) (l ops:List aG) (acc:List bQ):go P (.cO nm n' (⟨d,.len x,none,af⟩::l) ops acc::k) Q n t h=fA P (aL nm t h (.len x)) (dK t (.len x)) d nm n' l ops acc k Q n t h:=(rfl)
theorem agJ (d:Option Nat) (x:Operand) (af:List Nat) (nm n':Nat) (l ops:List aG) (acc:List bQ):go P (.cO nm n' (⟨d,.cap x,none,af⟩::l) ops acc::k) Q n t h=fA P (aL nm t h (.cap x)) (dK t (.cap x)) d nm n' l ops acc k Q n t h:=(rfl)
theorem agK (d:Option Nat) (e:TypeId) (sz bytes:Nat) (zs:List Value) (x y:Operand) (af:List Nat) (nm n':Nat) (l ops:List aG) (acc:List bQ):go P (.cO nm n' (⟨d,.app e sz bytes zs x y,none,af⟩::l) ops acc::k) Q n t h=fA P (aL nm t h (.app e sz bytes zs x y)) (dK t (.app e sz bytes zs x y)) d nm n' l ops acc k Q n t h:=(rfl)
theorem agL (d:Option Nat) (sz:Nat) (zs:List Value) (x:Operand) (af:List Nat) (nm n':Nat) (l ops:List aG) (acc:List bQ):go P (.cO nm n' (⟨d,.nL sz zs x,none,af⟩::l) ops acc::k) Q n t h=fA P (aL nm t h (.nL sz zs x)) (dK t (.nL sz zs x)) d nm n' l ops acc k Q n t h:=(rfl)
theorem agM (d:Option Nat) (sz:Nat) (x y:Operand) (af:List Nat) (nm n':Nat) (l ops:List aG) (acc:List bQ):go P (.cO nm n' (⟨d,.copy sz x y,none,af⟩::l) ops acc::k) Q n t h=fA P (aL nm t h (.copy sz x y)) (dK t (.copy sz x y)) d nm n' l ops acc k Q n t h:=(rfl)
theorem agN (d:Option Nat) (i:Nat) (x:Operand) (af:List Nat) (nm n':Nat) (l ops:List aG) (acc:List bQ):go P (.cO nm n' (⟨d,.ext i x,none,af⟩::l) ops acc::k) Q n t h=fA P (aL nm t h (.ext i x)) (dK t (.ext i x)) d nm n' l ops acc k Q n t h:=(rfl)
theorem agO (d:Option Nat) (mx:Bool) (xs:List Operand) (af:List Nat) (nm n':Nat) (l ops:List aG) (acc:List bQ):go P (.cO nm n' (⟨d,.pE mx xs,none,af⟩::l) ops acc::k) Q n t h=fA P (aL nm t h (.pE mx xs)) (dK t (.pE mx xs)) d nm n' l ops acc k Q n t h:=(rfl)
theorem agP (d:Option Nat) (e:TypeId) (sz bytes:Nat) (zs:List Value) (x y:Operand) (af:List Nat) (nm n':Nat) (l ops:List aG) (acc:List bQ):go P (.cO nm n' (⟨d,.nK e sz bytes zs x y,none,af⟩::l) ops acc::k) Q n t h=fA P (aL nm t h (.nK e sz bytes zs x y)) (dK t (.nK e sz bytes zs x y)) d nm n' l ops acc k Q n t h:=(rfl)
theorem agQ (d:Option Nat) (neg:Bool) (x y:Operand) (af:List Nat) (nm n':Nat) (l ops:List aG) (acc:List bQ):go P (.cO nm n' (⟨d,.pz neg x y,none,af⟩::l) ops acc::k) Q n t h=fA P (aL nm t h (.pz neg x y)) (dK t (.pz neg x y)) d nm n' l ops acc k Q n t h:=(rfl)
theorem agR (d:Option Nat) (x:Operand) (af:List Nat) (nm n':Nat) (l ops:List aG) (acc:List bQ):go P (.cO nm n' (⟨d,.qD x,none,af⟩::l) ops acc::k) Q n t h=fA P (aL nm t h (.qD x)) (dK t (.qD x)) d nm n' l ops acc k Q n t h:=(rfl)
theorem agS (id nm n':Nat) (l ops:List aG) (acc:List bQ):gW P id (.cO nm n' l ops acc::k) Q n t h=gW P id k Q n t h:=(rfl)
theorem agT (ops:List aG):go P (.code (.region ops true)::k) Q n t h=go P (.cO n (n+8*ops.length) ops ops []::k) Q n t h:=by
 simp [go,jh,iq,GZ]
theorem agU (nm n':Nat) (ops:List aG) (acc:List bQ):go P (.cO nm n' [] ops acc::k) Q n t h=(rT ops acc.reverse=true/\go P k Q n' t h):=(rfl)
theorem Y4 (e:E) (rd:List Nat) (d:Option Nat) (nm n':Nat) (l ops:List aG) (acc:List bQ):
 fA P (some e) rd d nm n' l ops acc k Q n t h=(e.pre/\go P (.cO (nm+8) n' l ops ((rd,e.upd.map Prod.fst)::acc)::k) Q n (bP t d e.val) (e.upd++h)):=(rfl)
theorem agV (d:Option Nat) (f:Operand) (args:List Operand) (af:List Nat) (nm n':Nat) (l ops:List aG) (acc:List bQ):
 go P (.cO nm n' (⟨d,.call f args,none,af⟩::l) ops acc::k) Q n t h=Y2 P (ev t f) (jZ t args) d nm n' l ops acc k Q n t h:=(rfl)
theorem agW (g:FuncId) (caps xs:List AV) (d:Option Nat) (nm n':Nat) (l ops:List aG) (acc:List bQ):
 Y2 P (some (.fn g caps)) (some xs) d nm n' l ops acc k Q n t h=if g<1000000 then nY P nm g (xs++caps) d n' l ops acc k Q n t h else if g<2000000 then nY P nm (g - 1000000) (caps++xs) d n' l ops acc k Q n t h else False:=(rfl)
theorem agX (d:Option Nat) (neg:Bool) (x:Operand) (af:List Nat) (nm n':Nat) (l ops:List aG) (acc:List bQ):
 go P (.cO nm n' (⟨d,.lM neg x,none,af⟩::l) ops acc::k) Q n t h=Y3 P (vD (ev t x)) neg d nm n' l ops acc k Q n t h:=(rfl)
theorem agY (b neg:Bool) (d:Option Nat) (nm n':Nat) (l ops:List aG) (acc:List bQ):Y3 P (some (some b)) neg d nm n' l ops acc k Q n t h=
 go P (.cO (nm+8) n' l ops (([],[])::acc)::k) Q n (bP t d (.v (.bool (if neg then !b else b)))) h:=(rfl)
theorem agZ (d:Option Nat) (op:gm) (g:Nat) (w:Bool) (af:List Nat) (nm n':Nat) (l ops:List aG) (acc:List bQ):
 go P (.cO nm n' (⟨d,op,some (g,w),af⟩::l) ops acc::k) Q n t h=nZ P (get t g) ⟨d,op,none,af⟩ w nm n' l ops acc k Q n t h:=by
 cases w<;>rfl
theorem ag0 (o:aG) (w:Bool) (nm n':Nat) (l ops:List aG) (acc:List bQ):
 nZ P (some (.v undef)) o w nm n' l ops acc k Q n t h=go P (.cO (nm+8) n' l ops (([],[])::acc)::k) Q n (bP t o.dst (.v undef)) h:=(rfl)
theorem ag1 (o:aG) (nm n':Nat) (l ops:List aG) (acc:List bQ):
 nZ P (some (.v (.bool true))) o true nm n' l ops acc k Q n t h=go P (.cO nm n' ({o with guard:=none}::l) ops acc::k) Q n t h:=by simp [nZ,pF,BG]
theorem ag2 (o:aG) (nm n':Nat) (l ops:List aG) (acc:List bQ):
 nZ P (some (.v (.bool true))) o false nm n' l ops acc k Q n t h=go P (.cO (nm+8) n' l ops (([],[])::acc)::k) Q n (bP t o.dst (.v undef)) h:=by simp [nZ,pF,BG]
theorem ag6 (o:aG) (nm n':Nat) (l ops:List aG) (acc:List bQ):
 nZ P (some (.v (.bool false))) o true nm n' l ops acc k Q n t h=go P (.cO (nm+8) n' l ops (([],[])::acc)::k) Q n (bP t o.dst (.v undef)) h:=by simp [nZ,pF,BH]
theorem ag7 (o:aG) (nm n':Nat) (l ops:List aG) (acc:List bQ):
 nZ P (some (.v (.bool false))) o false nm n' l ops acc k Q n t h=go P (.cO nm n' ({o with guard:=none}::l) ops acc::k) Q n t h:=by simp [nZ,pF,BH]
theorem dR {b:Bool} {o:aG} {w:Bool} {nm n':Nat} {l ops:List aG} {acc:List bQ}
 (h1:b=true->nZ P (some (.v (.bool true))) o w nm n' l ops acc k Q n t h) (h2:b=false->nZ P (some (.v (.bool false))) o w nm n' l ops acc k Q n t h):
 nZ P (some (.v (.bool b))) o w nm n' l ops acc k Q n t h:=by
 cases b
 ·exact h2 rfl
 ·exact h1 rfl
theorem xS {f:FuncId} {args:List AV} {r:Rec} {d:Option Nat} {nm n':Nat} {l:List aG} (hc:jH P nm f args h r) (hk:go P (.ops (nm+8) n' l::k) Q n (bP t d r.val) (r.upd++h)):
 nW P nm f args d n' l k Q n t h:=hc h (fun _ _=>rfl) _ hk
theorem xU {f:FuncId} {args:List AV} {r:Rec} {d:Option Nat} {nm n':Nat} {l ops:List aG} {acc:List bQ} (hc:jH P nm f args h r)
 (hk:go P (.cO (nm+8) n' l ops ((r.rd,r.upd.map Prod.fst)::acc)::k) Q n (bP t d r.val) (r.upd++h)):nY P nm f args d n' l ops acc k Q n t h:=⟨r,hc,hk⟩
theorem go_loop {c:eY} {α:Type} (S:α->St) (μ:α->Nat) (a0:α) (hw:Wk ⟨n,t,h⟩ (S a0))
 (hb:∀ a (B:St->Prop),(∀ s' a',μ a'<μ a->Wk s' (S a')->B s')->go P (.code c:: .lp B::k) Q (S a).n (S a).t (S a).h):
 go P (.code (.loop c)::k) Q n t h:=by
 refine ⟨α,S,μ,a0,hw,fun a=> ?_⟩
 have:=hb a (fun s'=>∃ a',μ a'<μ a/\Wk s' (S a')) (fun s' a' h1 h2=>⟨a',h1,h2⟩)
 simp only [go,jh] at this
 have e:(Ol (fun s'=>∃ a',μ a'<μ a/\Wk s' (S a')) (fun e s'=>match e with
  | .normal=>jh P Q k s'
  | .exit id=>jh.gW P Q id k s'
  |e=>Q e s'))=(fun e s'=>match e with
  | .normal=>∃ a',μ a'<μ a/\Wk s' (S a')
  | .exit id=>jh.gW P Q id (.lp (fun s'=>∃ a',μ a'<μ a/\Wk s' (S a'))::k) s'
  |e=>Q e s'):=by
  funext e s'
  cases e<;>rfl
 rw [e]
 exact this
end eqs
end Go.Eng
namespace Go.Eng
open Go
def rowOk:Ob->Bool
 | .row _ _ _=>true
 | .box cs=>dx cs
 |_=>false
def lS:Ob->Prop
 | .row _ _ xs=>∀ x ∈ xs,∀ c ∈ x,na c=true
 | .box cs=>∀ c ∈ cs,na c=true
 |_=>False
theorem fM.ag8 {w:World} {ok ok':Nat->Prop} {ρ ρ':Nat->Loc} {U U':Nat->Prop} {l:Loc} {o:Ob} (hr:rowOk o=true) (hok:(∀ g,ok g->ok' g)\/lS o)
 (ho:fM w ok ρ U l o):fM w ok' ρ' U' l o:=by
 cases o with
 |row e sz xs=>
  rcases ho with ho|⟨g,o,n,cells,h1,h2,h3,h4,h5,h6⟩
  ·exact .inl ho
  ·refine .inr ⟨g,o,n,cells,h1,h2,h3,h4,h5,fun k x j c hk hj=> ?_⟩
   obtain ⟨u,hu,h1c,hv⟩:=h6 k x j c hk hj
   rcases hok with hok|hok
   ·exact ⟨u,hu,h1c,hv.mono hok (fun _ _=>rfl)⟩
   ·exact ⟨u,hu,h1c,hv.na (hok x (List.mem_of_getElem? hk) c (List.mem_of_getElem? hj))⟩
 |box cs=>
  obtain ⟨g,o,n,e,cells,h1,h2,h3,h4,h5⟩:=ho
  refine ⟨g,o,n,e,cells,h1,h2,h3,h4,fun j c hj=> ?_⟩
  obtain ⟨u,hu,hv⟩:=h5 j c hj
  have hp:=VP.zQ hv (BN cs hr j c hj)
  rcases hok with hok|hok
  ·exact ⟨u,hu,.p (hp.mono hok (fun _ _=>rfl))⟩
  ·exact ⟨u,hu,.p (hp.na (hok c (List.mem_of_getElem? hj)))⟩
 |_=>simp [rowOk] at hr
def iW (B:List Nat):List AV->List AV->Prop
 |[],[]=>True
 |x::l,y::l'=>(match x with
  | .ptr i j=>match B[i]? with
   |some b=>y= .ptr b j
   |none=>False
  |x=>x=y/\x.pure=true)/\iW B l l'
 |_,_=>False
theorem H6 {B:List Nat}:∀ (xs ys:List AV),iW B xs ys->xs.length=ys.length/\∀ (i:Nat) (x:AV),xs[i]? =some x->∃ y,ys[i]? =some y/\
 ((∃ k j b,x= .ptr k j/\B[k]? =some b/\y= .ptr b j)\/(x=y/\x.pure=true))
 |[],[],_=>⟨rfl,fun i b h=>by simp at h⟩
 |x::xs,y::ys,h=>by
  simp only [iW] at h
  obtain ⟨h1,h2⟩:=H6 xs ys h.2
  refine ⟨by simp [h1],fun i c hc=> ?_⟩
  cases i with
  |zero=>
   simp at hc;subst hc
   refine ⟨y,rfl,?_⟩
   obtain ⟨h3,_⟩:=h
   split at h3
   ·rename_i k j
    split at h3
    ·rename_i b hb;exact .inl ⟨k,j,b,rfl,hb,h3⟩
    ·exact h3.elim
   ·exact .inr h3
  |succ i=>simpa using h2 i c (by simpa using hc)
 |[],_::_,h=>by simp [iW] at h
 |_::_,[],h=>by simp [iW] at h
section
variable {C C':Ctx} {ρ ρ1:Nat->Loc} {U U1:Nat->Prop} {h:List (Nat×Ob)} {w w':World} {B:List Nat} {bs':List (List AV)} {es:List Ob} {nm:Nat}
def iw (ρ ρ1:Nat->Loc) (nm m:Nat) (k:Nat):Loc:=if nm<=k/\k<nm+m then ρ1 (4+(k - nm)) else ρ k
def Ac (U:Nat->Prop) (nm m:Nat) (k:Nat):Prop:=U k\/(nm<=k/\k<nm+m)
theorem Pb {w:World} {ok:Nat->Prop} {ρ:Nat->Loc} {U:Nat->Prop} {x:AV} {u:Value} (h:VR w ok ρ U x u):x.pure=true->VP w ok x u:=VP.zQ h
theorem back (hr:HR C ρ U h w) (hw0:C'.w0=w) (hext:∀ g,C'.ext g↔∃ b ∈ B,∃ o n,ρ b= .at g o n) (hloc:∀ i,C'.loc i=(B[i]?).map ρ)
 (hr':HR C' ρ1 U1 (outs bs' es) w') (hB:∀ b ∈ B,∃ cs,get h b=some (.box cs)) (hlen:bs'.length=B.length) (hB4:B.length<=4) (hes:es.all rowOk=true)
 (hm:es.length<=8) {cs:List (List AV)} (hlc:bs'.length=cs.length) (hrel:∀ (i:Nat) (c:List AV),cs[i]? =some c->∃ x,bs'[i]? =some x/\iW B x c) (hfr:∀ b,U b->¬ (nm<=b/\b<nm+8))
 (hgv:∀ g,¬ C'.BD g) (kQ:(∀ g,aP C' ρ1 w' g->aP C (iw ρ ρ1 nm es.length) w' g)\/(bs'=[]/\∀ o ∈ es,lS o)):
 HR C (iw ρ ρ1 nm es.length) (Ac U nm es.length) (dB nm es++(gq B cs++h)) w'/\
  ∀ x u,VR w (aP C ρ w) ρ U x u->VR w' (aP C (iw ρ ρ1 nm es.length) w') (iw ρ ρ1 nm es.length) (Ac U nm es.length) x u:=by
 have Pd:∀ k,U k->iw ρ ρ1 nm es.length k=ρ k:=fun k hk=>by
  unfold iw
  rw [if_neg (fun hh=>hfr k hk ⟨hh.1,by omega⟩)]
 have aqR:∀ k g o n,ρ k= .at g o n->U k:=fun k g o n hk=>by
  apply Classical.byContradiction
  intro hn
  rw [hr.Oi hn] at hk;cases hk
 have hcase:∀ k g o n,iw ρ ρ1 nm es.length k= .at g o n->(∃ i,k=nm+i/\i<es.length/\ρ1 (4+i)= .at g o n)\/ρ k= .at g o n:=fun k g o n hk=>by
  unfold iw at hk
  split at hk
  ·rename_i hh
   exact .inl ⟨k - nm,by omega,by omega,hk⟩
  ·exact .inr hk
 have hoff:∀ i g o n,i<es.length->ρ1 (4+i)= .at g o n->w.heap.size<=g/\g<w'.heap.size:=fun i g o n hi hl=>by
  obtain ⟨h1,h2⟩:=hr'.dJ g ⟨_,o,n,hl⟩
  refine ⟨?_,h2⟩
  rcases h1 with h1|h1
  ·obtain ⟨b,o',n',hb⟩:=C'.xC g h1
   obtain ⟨h3,_,_⟩:=hr'.fix b _ hb
   have:=hr'.inj (4+i) b g o n o' n' hl h3
   have:=C'.BB b _ hb
   omega
  ·rcases h1 with h1|h1
   ·exact (hgv g h1).elim
   ·rw [hw0] at h1;exact h1
 have hold:∀ k g o n,ρ k= .at g o n->g<w.heap.size:=fun k g o n hl=>(hr.dJ g ⟨k,o,n,hl⟩).2
 have hsz:w.heap.size<=w'.heap.size:=by have:=hr'.size;rw [hw0] at this;exact this
 have hheap:∀ g,g<w.heap.size->(∀ b ∈ B,∀ o n,ρ b≠.at g o n)->w'.heap[g]? =w.heap[g]? :=fun g hg hb=>by
  have:=hr'.old g (by rw [hw0];exact hg) (fun he=>by
   obtain ⟨b,iy,o,n,hl⟩:=(hext g).1 he
   exact hb b iy o n hl) (hgv g)
  rw [hw0] at this;exact this
 have hown:∀ g,jq (iw ρ ρ1 nm es.length) g->jq ρ g\/(w.heap.size<=g/\g<w'.heap.size/\∃ i o n,i<es.length/\ρ1 (4+i)= .at g o n):=fun g ⟨k,o,n,hk⟩=>by
  rcases hcase k g o n hk with ⟨i,rfl,hi,hl⟩|hl
  ·have:=hoff i g o n hi hl
   exact .inr ⟨this.1,this.2,i,o,n,hi,hl⟩
  ·exact .inl ⟨k,o,n,hl⟩
 have hok:∀ g,aP C ρ w g->aP C (iw ρ ρ1 nm es.length) w' g:=fun g hg=>⟨hg.1,by have:=hg.2.1;omega,fun ho=>by
  rcases hown g ho with ho|ho
  ·exact hg.2.2 ho
  ·have:=hg.2.1;omega⟩
 have vO:∀ g,aP C ρ w g->w'.heap[g]? =w.heap[g]? :=fun g hg=>hheap g hg.2.1 fun b _ o n hl=>hg.2.2 ⟨b,o,n,hl⟩
 have pI:Later U ρ (iw ρ ρ1 nm es.length):=fun k hk=> .inl (Pd k hk)
 have Y5:∀ k,U k->Ac U nm es.length k:=fun k hk=> .inl hk
 refine ⟨⟨fun k o hk=> ?_,fun k hk=> ?_,fun k k' g o n o' n' h1 h2=> ?_,hr'.os.trans (by rw [hw0];exact hr.os),hr'.tape.trans (by rw [hw0];exact hr.tape),
  hr'.output.trans (by rw [hw0];exact hr.output),Nat.le_trans hr.size hsz,fun g hg he hv=> ?_,hr.kL,fun g ho=> ?_,fun b l hb=> ?_⟩,
  fun x u hx=>hx.mono hok vO Y5 pI⟩
 ·
  rw [get_append,jg] at hk
  by_cases hin:nm<=k/\k<nm+es.length
  ·have hi:k - nm<es.length:=by omega
   rw [if_pos hin.1,List.getElem?_eq_getElem hi] at hk
   cases hk
   refine ⟨.inr hin,?_⟩
   have e:iw ρ ρ1 nm es.length k=ρ1 (4+(k - nm)):=by unfold iw;rw [if_pos hin]
   rw [e]
   have hg:get (outs bs' es) (4+(k - nm))=some es[k - nm]:=HV (by omega) (List.getElem?_eq_getElem hi)
   obtain ⟨_,ho⟩:=hr'.hp _ _ hg
   have hro:=List.all_eq_true.1 hes es[k - nm] (List.getElem_mem hi)
   refine fM.ag8 hro ?_ ho
   rcases kQ with kQ|kQ
   ·exact .inl kQ
   ·exact .inr (kQ.2 _ (List.getElem_mem hi))
  ·have hno:(if nm<=k then es[k - nm]? else none)=none:=by
    split
    ·exact List.getElem?_eq_none (by omega)
    ·rfl
   rw [hno] at hk
   simp only [get_append] at hk
   have e:iw ρ ρ1 nm es.length k=ρ k:=by unfold iw;rw [if_neg hin]
   rw [e]
   cases hbx:get (gq B cs) k with
   |some o'=>
    rw [hbx] at hk;cases hk
    obtain ⟨i,c2,h1,h2,rfl⟩:=xQ B cs k _ hbx
    obtain ⟨cs0,hb0⟩:=hB k (List.mem_of_getElem? h1)
    have uf:=(hr.hp k _ hb0).1
    refine ⟨.inl uf,?_⟩
    obtain ⟨c1,hc1,hrl⟩:=hrel i c2 h2
    have hg:get (outs bs' es) i=some (.box c1):=Ab hc1
    obtain ⟨_,ho⟩:=hr'.hp i _ hg
    have hl:=(hr'.fix i (ρ k) (by rw [hloc,h1];rfl)).1
    rw [hl] at ho
    obtain ⟨g,o,n,e,cells,h3,h4,h5,h6,h7⟩:=ho
    obtain ⟨hal,hag⟩:=H6 c1 c2 hrl
    refine ⟨g,o,n,e,cells,h3,h4,h5,by omega,fun j c hj=> ?_⟩
    obtain ⟨x,hx⟩:∃ x,c1[j]? =some x:=⟨_,List.getElem?_eq_getElem (by rw [hal];exact (List.getElem?_eq_some_iff.1 hj).1)⟩
    obtain ⟨y,hy,hxy⟩:=hag j x hx
    rw [hj] at hy;cases hy
    obtain ⟨u,hu,hv⟩:=h7 j x hx
    refine ⟨u,hu,?_⟩
    rcases hxy with ⟨k',j',b,rfl,hk',rfl⟩|⟨rfl,hp⟩
    ·obtain ⟨_,a,rfl,had⟩:=hv.qA
     obtain ⟨csb,hbb⟩:=hB b (List.mem_of_getElem? hk')
     have Y6:=(hr.hp b _ hbb).1
     have hlb:=(hr'.fix k' (ρ b) (by rw [hloc,hk'];rfl)).1
     refine .ptr a (.inl Y6) ?_
     rw [Pd b Y6,<-hlb]
     exact had
    ·rcases kQ with kQ|kQ
     ·exact .p ((Pb hv hp).mono kQ (fun _ _=>rfl))
     ·rw [kQ.1] at hc1;simp at hc1
   |none=>
    rw [hbx] at hk
    simp only at hk
    obtain ⟨uf,ho⟩:=hr.hp k o hk
    refine ⟨.inl uf,fM.mono hok vO Y5 pI (fun g o n hl=>hheap g (hold k g o n hl) fun b hb o' n' hb'=> ?_) ho⟩
    have:=hr.inj k b g o n o' n' hl hb'
    subst this
    exact HY B cs k hbx (hlen.symm.trans hlc) hb
 ·rw [get_append,jg] at hk
  have hin:¬ (nm<=k/\k<nm+es.length):=fun hh=>by
   rw [if_pos hh.1,List.getElem?_eq_getElem (show k - nm<es.length by omega)] at hk
   cases hk
  have hno:(if nm<=k then es[k - nm]? else none)=none:=by
   split
   ·exact List.getElem?_eq_none (by omega)
   ·rfl
  rw [hno] at hk
  simp only [get_append] at hk
  unfold iw
  rw [if_neg hin]
  cases hbx:get (gq B cs) k with
  |some o'=>rw [hbx] at hk;cases hk
  |none=>rw [hbx] at hk;exact hr.hd k hk
 ·rcases hcase k g o n h1 with ⟨i,rfl,hi,hl⟩|hl<;>rcases hcase k' g o' n' h2 with ⟨i',rfl,hi',hl'⟩|hl'
  ·have:=hr'.inj _ _ g o n o' n' hl hl'
   omega
  ·have:=hoff i g o n hi hl
   have:=hold _ g o' n' hl'
   omega
  ·have:=hoff i' g o' n' hi' hl'
   have:=hold _ g o n hl
   omega
  ·exact hr.inj _ _ g o n o' n' hl hl'
 ·have hg':g<w.heap.size:=Nat.lt_of_lt_of_le hg hr.size
  rw [<-hr.old g hg he hv]
  refine hheap g hg' fun b hb o n hl=> ?_
  rcases (hr.dJ g ⟨b,o,n,hl⟩).1 with h1|h1
  ·exact he h1
  ·rcases h1 with h1|h1
   ·exact hv h1
   ·omega
 ·rcases hown g ho with ho|ho
  ·exact ⟨(hr.dJ g ho).1,by have:=(hr.dJ g ho).2;omega⟩
  ·exact ⟨.inr (.inr (by have:=hr.size;omega)),ho.2.1⟩
 ·obtain ⟨h1,h2,cs0,h3⟩:=hr.fix b l hb
  refine ⟨by rw [Pd b h2];exact h1,.inl h2,?_⟩
  have hin:¬ (nm<=b/\b<nm+es.length):=fun hh=>hfr b h2 ⟨hh.1,by omega⟩
  have hno:(if nm<=b then es[b - nm]? else none)=none:=by
   split
   ·exact List.getElem?_eq_none (by omega)
   ·rfl
  rw [get_append,jg,hno]
  simp only [get_append]
  cases hbx:get (gq B cs) b with
  |some o'=>
   obtain ⟨i,cs',_,_,rfl⟩:=xQ B cs b _ hbx
   exact ⟨cs',rfl⟩
  |none=>exact ⟨cs0,h3⟩
def Fn (P:Program) (f:FuncId) (xs:List AV) (bs:List (List AV)) (r:AV) (bs':List (List AV)) (es:List Ob):Prop:=
 Enters P f/\∀ (C:Ctx) (ρ:Nat->Loc) (U:Nat->Prop) (w:World) (vals:Array Value),HR C ρ U (gG 0 bs) w->(∀ b,U b->b<4)->VL w (aP C ρ w) ρ U xs vals->
  Calls P f vals w fun e w'=>∃ v ρ' U',e= .returned v/\HR C ρ' U' (outs bs' es) w'/\VR w' (aP C ρ' w') ρ' U' r v
structure aA (P:Program) (f:FuncId) (sc:eY) (res:List iJ) (nt:Nat):Prop where
 fn:∃ fn c,P.funcs[f]? =some fn/\(fn.name== "runtime.NumGoroutine")=false/\fn.body=some c/\gV P c=some sc/\vN P fn.results.toList=some res/\
  fn.results.toList.length<=5/\fn.ntmps=nt
 ok:jK nt sc=true
 mixed:P.follows .mixedOrders=true
def pJ:Nat->List AV->List (Nat×AV)
 |_,[]=>[]
 |k,x::l=>(k,x)::pJ (k+1) l
theorem H7:∀ (l:List AV) (k j:Nat),get (pJ k l) j=if k<=j then l[j - k]? else none
 |[],k,j=>by simp [pJ]
 |o::l,k,j=>by
  simp only [pJ,get]
  by_cases e:k=j
  ·subst e;simp
  ·rw [if_neg e,H7 l (k+1) j]
   by_cases h:k<=j
   ·rw [if_pos h,if_pos (show k+1<=j by omega)]
    have:j - k=(j - (k+1))+1:=by omega
    rw [this,List.getElem?_cons_succ]
   ·rw [if_neg h,if_neg (by omega)]
def Fin (res:List iJ) (r:AV) (bs':List (List AV)) (es:List Ob) (t:List (Nat×AV)) (h:List (Nat×Ob)):Prop:=
 ∃ S N xs,jO t h res=some xs/\iD h S N (outs bs' es)=true/\cZ h S N (outs bs' es) S/\gY (outs bs' es) N/\rv h S N r (ay xs)
def H8 (res:List iJ) (r:AV) (bs':List (List AV)) (es:List Ob):Exit->St->Prop
 | .normal,s=>Fin res r bs' es s.t s.h
 | .ret,s=>Fin res r bs' es s.t s.h
 |_,_=>False
theorem Fn.aO {P:Program} {f:FuncId} {sc:eY} {res:List iJ} {nt:Nat} (hok:aA P f sc res nt) {xs:List AV} {bs:List (List AV)} {r:AV} {bs':List (List AV)} {es:List Ob}
 (hn:xs.length<=nt) (hgo:go P [.code sc] (H8 res r bs' es) 8 (pJ 0 xs) (gG 0 bs)):Fn P f xs bs r bs' es:=by
 obtain ⟨⟨fn,c,hf,hnm,hb,hs,hres,hr4,rfl⟩,hoc,hm⟩:=hok
 refine ⟨⟨fn,hf,hnm,by rw [hb];rfl⟩,fun C ρ U w vals hr hU hv=> ?_⟩
 let C1:Ctx:={C with nt:=fn.ntmps}
 have hr1:HR C1 ρ U (gG 0 bs) w:=⟨hr.hp,hr.hd,hr.inj,hr.os,hr.tape,hr.output,hr.size,hr.old,hr.kL,hr.dJ,hr.fix⟩
 refine calls_of_wp hf hb (xL (C:=C1) hm c sc hs hoc _ _ ⟨8,pJ 0 xs,gG 0 bs⟩ _ w ⟨ρ,U,⟨hr1,fun k x hk=> ?_,rfl,?_⟩,fun b hb=>by have:=hU b hb;simp only;omega⟩ hgo fun e s a w' hA hQ=> ?_)
 ·rw [H7] at hk
  simp only [Nat.zero_le,if_true,Nat.sub_zero] at hk
  have hlt:k<vals.size:=by rw [<-hv.1];exact (List.getElem?_eq_some_iff.1 hk).1
  refine ⟨vals[k],?_,hv.2 k x _ hk (Array.getElem?_eq_getElem hlt)⟩
  simp [Array.getElem?_append,hlt]
 ·have:=hv.1
  simp only [Array.size_append,Array.size_replicate]
  show _=fn.ntmps
  omega
 ·have fin:Fin res r bs' es s.t s.h->a.defers=[]/\∃ v,(results fn a.tmps).run P w'= .ok v w'/\∃ v_1 ρ' U',Ending.returned v=Ending.returned v_1/\HR C ρ' U' (outs bs' es) w'/\VR w' (aP C ρ' w') ρ' U' r v_1:=fun hF=>by
   obtain ⟨S,N,ys,h1,h2,h3,h4,h5⟩:=hF
   obtain ⟨ρ1,U1,hS,_⟩:=hA
   obtain ⟨vs,h6,h7,h8,h9⟩:=Cf (P:=P) hS.hr hS.tm fn.results.toList res ys hres h1
   refine ⟨hS.defers,_,O3 a.tmps w' rfl h6 hr4 h8,_,dH ρ1 S N,jN S N,rfl,?_,?_⟩
   ·have:=xO hS.hr h2 h3 h4
    exact ⟨this.hp,this.hd,this.inj,this.os,this.tape,this.output,this.size,this.old,this.kL,this.dJ,this.fix⟩
   ·exact lD hS.hr (O4 (by omega) h9) r h5
  cases e with
  |normal=>exact fin hQ
  |ret=>exact fin hQ
  |exit i=>exact hQ.elim
  |goto l=>exact hQ.elim
  |panic ch=>exact hQ.elim
  |outgrown=>exact hQ.elim
end
end Go.Eng
namespace Go.Eng
open Go
def pK (h:List (Nat×Ob)) (A:List Nat):List Nat->List (List AV)->Prop
 |[],[]=>True
 |b::B,cs::bs=>(match get h b with
  |some (.box cs')=>iW A cs cs'
  |_=>False)/\pK h A B bs
 |_,_=>False
def qI (A:List Nat):List (List AV)->List (List AV)->Prop
 |[],[]=>True
 |x::l,y::l'=>iW A x y/\qI A l l'
 |_,_=>False
theorem Pe {A:List Nat}:∀ (xs ys:List (List AV)),qI A xs ys->xs.length=ys.length/\∀ (i:Nat) (y:List AV),ys[i]? =some y->∃ x,xs[i]? =some x/\iW A x y
 |[],[],_=>⟨rfl,fun i b h=>by simp at h⟩
 |x::xs,y::ys,h=>by
  simp only [qI] at h
  obtain ⟨h1,h2⟩:=Pe xs ys h.2
  refine ⟨by simp [h1],fun i c hc=> ?_⟩
  cases i with
  |zero=>simp at hc;subst hc;exact ⟨x,rfl,h.1⟩
  |succ i=>simpa using h2 i c (by simpa using hc)
 |[],_::_,h=>by simp [qI] at h
 |_::_,[],h=>by simp [qI] at h
def xV:List (List AV)->Bool
 |[]=>true
 |cs::l=>dx cs&&xV l
theorem Y7 {h:List (Nat×Ob)} {A:List Nat}:∀ (B:List Nat) (bs:List (List AV)),pK h A B bs->B.length=bs.length/\∀ (i b:Nat),B[i]? =some b->∃ cs cs',bs[i]? =some cs/\get h b=some (.box cs')/\iW A cs cs'
 |[],[],_=>⟨rfl,fun i b h=>by simp at h⟩
 |b::B,cs::bs,h=>by
  simp only [pK] at h
  obtain ⟨h1,h2⟩:=Y7 B bs h.2
  refine ⟨by simp [h1],fun i c hc=> ?_⟩
  cases i with
  |zero=>
   simp at hc;subst hc
   obtain ⟨h3,_⟩:=h
   split at h3
   ·rename_i cs' hg;exact ⟨cs,cs',rfl,hg,h3⟩
   ·exact h3.elim
  |succ i=>simpa using h2 i c (by simpa using hc)
 |[],_::_,h=>by simp [pK] at h
 |_::_,[],h=>by simp [pK] at h
section
variable {P:Program} {f:FuncId} {xs ys:List AV} {bs bs':List (List AV)} {r:AV} {es:List Ob} {nm:Nat} {h:List (Nat×Ob)} {B:List Nat}
def oh (ρ:Nat->Loc) (B:List Nat) (i:Nat):Loc:=match B[i]? with
 |some b=>ρ b
 |none=> .dead
theorem Fn.ug (hF:Fn P f xs bs r bs' es) (nm:Nat) (B:List Nat) (cs':List (List AV)) (ha:iW B xs ys) (hb:pK h B B bs) (hB4:B.length<=4) (hnd:B.Nodup) (hlen:bs'.length=B.length) (hp:qI B bs' cs')
 (hes:es.all rowOk=true) (hm:es.length<=8) (hx:dX es.length r=true):
 jH P nm f ys h ⟨sh nm r,dB nm es++gq B cs',B⟩:=by
 intro h' hh' Q hQ
 refine ⟨hF.1,fun C ρ U w vals hr hfr hvl=> ?_⟩
 obtain ⟨hl,hb'⟩:=Y7 B bs hb
 have hbx:∀ (i b:Nat),B[i]? =some b->∃ cs cs',bs[i]? =some cs/\get h' b=some (.box cs')/\iW B cs cs':=fun i b hib=>by
  obtain ⟨cs,cs',h1,h2,h3⟩:=hb' i b hib
  exact ⟨cs,cs',h1,by rw [hh' b (List.mem_of_getElem? hib)];exact h2,h3⟩
 let C':Ctx:=⟨w,aP C ρ w,(fun g=>∃ b ∈ B,∃ o n,ρ b=Loc.at g o n),(fun i=>(B[i]?).map ρ),0,(fun g hg=>by
  obtain ⟨b,iy,o,n,hl⟩:=hg
  obtain ⟨i,hi⟩:=List.mem_iff_getElem?.1 iy
  exact ⟨i,o,n,by simp [hi,hl]⟩),(fun i l hl=>by
  rcases Nat.lt_or_ge i B.length with h1|h1
  ·omega
  ·simp [List.getElem?_eq_none h1] at hl),(fun _=>False),(fun _ h=>h.elim)⟩
 have hbl:∀ (i b:Nat),B[i]? =some b->oh ρ B i=ρ b:=fun i b hib=>by simp [oh,hib]
 have hown:∀ g,jq (oh ρ B) g->∃ b ∈ B,∃ o n,ρ b= .at g o n:=fun g ⟨i,o,n,hi⟩=>by
  unfold oh at hi
  split at hi
  ·rename_i b hib;exact ⟨b,List.mem_of_getElem? hib,o,n,hi⟩
  ·cases hi
 have hok:∀ g,aP C ρ w g->aP C' (oh ρ B) w g:=fun g hg=>⟨.inl hg,hg.2.1,fun ho=>by
  obtain ⟨b,_,o,n,hb⟩:=hown g ho
  exact hg.2.2 ⟨b,o,n,hb⟩⟩
 have hpure:∀ {x:AV} {u:Value},x.pure=true->VR w (aP C ρ w) ρ U x u->VP w (aP C' (oh ρ B) w) x u:=fun hx hv=>(Pb hv hx).mono hok (fun _ _=>rfl)
 have hr0:HR C' (oh ρ B) (fun i=>i<B.length) (gG 0 bs) w:=by
  refine ⟨fun i o hi=> ?_,fun i hi=> ?_,fun i i' g o n o' n' h1 h2=> ?_,rfl,rfl,rfl,Nat.le_refl _,fun g _ _ _=>rfl,fun g hg=>⟨hg.2.1,fun ⟨b,_,o,n,hb⟩=>hg.2.2 ⟨b,o,n,hb⟩,fun h=>h⟩,
   fun g ho=> ?_,fun i l hi=> ?_⟩
  ·simp only [gG,jg,Nat.zero_le,if_true,Nat.sub_zero,List.getElem?_map] at hi
   have hlt:i<B.length:=by
    rcases Nat.lt_or_ge i B.length with h1|h1
    ·exact h1
    ·rw [List.getElem?_eq_none (by omega)] at hi;cases hi
   refine ⟨hlt,?_⟩
   have hib:B[i]? =some B[i]:=List.getElem?_eq_getElem hlt
   obtain ⟨cs,cs1,h1,h2,h3⟩:=hbx i _ hib
   rw [h1] at hi
   cases hi
   rw [hbl i _ hib]
   obtain ⟨_,g,o,n,e,cells,h4,h5,h6,h7,h8⟩:=hr.hp _ _ h2
   obtain ⟨hal,hag⟩:=H6 cs cs1 h3
   refine ⟨g,o,n,e,cells,h4,h5,h6,by omega,fun j c hj=> ?_⟩
   obtain ⟨y,hy,hxy⟩:=hag j c hj
   obtain ⟨u,hu,hv⟩:=h8 j y hy
   refine ⟨u,hu,?_⟩
   rcases hxy with ⟨k,j',b,rfl,hk,rfl⟩|⟨rfl,hp⟩
   ·obtain ⟨_,a,rfl,had⟩:=hv.qA
    have hlt:k<B.length:=(List.getElem?_eq_some_iff.1 hk).1
    exact .ptr a hlt (by rw [hbl k b hk];exact had)
   ·exact .p (hpure hp hv)
  ·simp only [gG,jg,Nat.zero_le,if_true,Nat.sub_zero,List.getElem?_map] at hi
   have:B[i]? =none:=by
    rcases Nat.lt_or_ge i B.length with h1|h1
    ·rw [List.getElem?_eq_getElem (show i<bs.length by omega)] at hi;cases hi
    ·exact List.getElem?_eq_none h1
   simp [oh,this]
  ·have key:∀ i g o n,oh ρ B i= .at g o n->∃ b,B[i]? =some b/\ρ b= .at g o n:=fun i g o n hi=>by
    unfold oh at hi
    split at hi
    ·rename_i b hib;exact ⟨b,hib,hi⟩
    ·cases hi
   obtain ⟨b,hib,hl1⟩:=key i g o n h1
   obtain ⟨b',aha,hl2⟩:=key i' g o' n' h2
   have e:=hr.inj b b' g o n o' n' hl1 hl2
   subst e
   obtain ⟨p1,q1⟩:=List.getElem?_eq_some_iff.1 hib
   obtain ⟨p2,q2⟩:=List.getElem?_eq_some_iff.1 aha
   exact (List.getElem_inj hnd).1 (q1.trans q2.symm)
  ·obtain ⟨b,iy,o,n,hb⟩:=hown g ho
   exact ⟨.inl ⟨b,iy,o,n,hb⟩,(hr.dJ g ⟨b,o,n,hb⟩).2⟩
  ·have hlt:i<B.length:=by
    rcases Nat.lt_or_ge i B.length with h1|h1
    ·exact h1
    ·simp [C',List.getElem?_eq_none h1] at hi
   have hib:B[i]? =some B[i]:=List.getElem?_eq_getElem hlt
   obtain ⟨cs,cs1,h1,h2,h3⟩:=hbx i _ hib
   refine ⟨?_,hlt,cs,?_⟩
   ·rw [hbl i _ hib]
    simp only [C',hib,Option.map_some,Option.some.injEq] at hi
    exact hi
   ·simp [gG,jg,h1]
 obtain ⟨hal,hag⟩:=H6 xs ys ha
 have xW:VL w (aP C' (oh ρ B) w) (oh ρ B) (fun i=>i<B.length) xs vals:=by
  refine ⟨by rw [hal];exact hvl.1,fun i x u hi hu=> ?_⟩
  obtain ⟨y,hy,hxy⟩:=hag i x hi
  have hv:=hvl.2 i y u hy hu
  rcases hxy with ⟨k,j,b,rfl,hk,rfl⟩|⟨rfl,hp⟩
  ·obtain ⟨_,a,rfl,had⟩:=hv.qA
   have hlt:k<B.length:=(List.getElem?_eq_some_iff.1 hk).1
   exact .ptr a hlt (by rw [hbl k b hk];exact had)
  ·exact .p (hpure hp hv)
 refine (hF.2 C' (oh ρ B) (fun i=>i<B.length) w vals hr0 (fun b hb=>by omega) xW).mono fun e w' hpost=> ?_
 obtain ⟨v,ρ1,U1,rfl,hr1,hv1⟩:=hpost
 have kQ:∀ g,aP C' ρ1 w' g->aP C (iw ρ ρ1 nm es.length) w' g:=fun g hg=>by
  have hno:¬ ∃ i o n,i<es.length/\ρ1 (4+i)= .at g o n:=fun ⟨i,o,n,_,hi⟩=>hg.2.2 ⟨_,o,n,hi⟩
  have hcase:jq (iw ρ ρ1 nm es.length) g->jq ρ g:=fun ⟨k,o,n,hk⟩=>by
   unfold iw at hk
   split at hk
   ·exact absurd ⟨k - nm,o,n,by omega,hk⟩ hno
   ·exact ⟨k,o,n,hk⟩
  refine ⟨?_,hg.2.1,fun ho=> ?_⟩
  ·rcases hg.1 with h1|h1
   ·exact h1.1
   ·right;have:=hr.size;exact .inr (Nat.le_trans this (h1.resolve_left fun h=>h))
  ·have ho':=hcase ho
   rcases hg.1 with h1|h1
   ·exact h1.2.2 ho'
   ·have:=(hr.dJ g ho').2
    have h1':w.heap.size<=g:=h1.resolve_left fun h=>h
    omega
 obtain ⟨hR,hkeep⟩:=back (C':=C') (nm:=nm) hr rfl (fun g=>Iff.rfl) (fun i=>rfl) hr1 (fun b hb=>by
  obtain ⟨i,hi⟩:=List.mem_iff_getElem?.1 hb
  obtain ⟨_,cs,_,h2,_⟩:=hbx i b hi
  exact ⟨cs,h2⟩) hlen hB4 hes hm (Pe bs' cs' hp).1 (Pe bs' cs' hp).2 hfr (fun _ h=>h) (.inl kQ)
 refine ⟨v,sh nm r,_,iw ρ ρ1 nm es.length,Ac U nm es.length,rfl,hR,?_,hkeep,fun b hb=> ?_,?_⟩
 ·refine VR.sh kQ (fun i hi=> ?_) (fun i hi=> .inr ⟨by omega,by omega⟩) hv1 hx
  unfold iw
  rw [if_pos ⟨by omega,by omega⟩]
  congr 2;omega
 ·rcases hb with hb|hb
  ·exact .inl hb
  ·exact .inr ⟨hb.1,by omega⟩
 ·simpa [List.append_assoc] using hQ
theorem jH.use {ys:List AV} {x:Rec} (hc:jH P nm f ys h x) {Q:AV->List (Nat×Ob)->Prop} (hQ:Q x.val (x.upd++h)):rR P nm f ys h Q:=hc h (fun _ _=>rfl) Q hQ
mutual
def deep:AV->List Nat
 | .own b _ _ _=>[b]
 | .ptr b _=>[b]
 | .rp b _ _ _=>[b]
 | .mp b=>[b]
 | .agg cs=>dF cs
 | .aF cs=>dF cs
 | .fn _ cs=>dF cs
 |_=>[]
def dF:List AV->List Nat
 |[]=>[]
 |c::cs=>deep c++dF cs
end
mutual
theorem Pf {h h':List (Nat×Ob)} {S:List (Nat×Nat)}:∀ (x y:AV),(∀ b ∈ deep y,get h' b=get h b)->rv h S [] x y->rv h' S [] x y
 | .own ..,y,_,hx=>by unfold rv at hx ⊢;exact hx
 | .ptr ..,y,_,hx=>by unfold rv at hx ⊢;exact hx
 | .rp ..,y,_,hx=>by unfold rv at hx ⊢;exact hx
 | .mp ..,y,_,hx=>by unfold rv at hx ⊢;exact hx
 | .v _,y,_,hx=>by unfold rv at hx ⊢;exact hx
 | .sl sz ys,y,hh,hx=>by
  cases y with
  |own b sz' off len=>
   simp only [deep,List.mem_singleton,forall_eq] at hh
   simp only [rv,hh] at hx ⊢;exact hx
  |v a=>
   unfold rv at hx ⊢
   split at hx
   ·rename_i e;cases e
   ·rename_i e;cases e;exact hx
   ·rename_i e;cases e
   ·exact hx.elim
  |_=>simp only [rv] at hx ⊢<;>exact hx
 | .dG cs j,y,hh,hx=>by
  cases y with
  |rp b sz i j'=>
   simp only [deep,List.mem_singleton,forall_eq] at hh
   simp only [rv,hh] at hx ⊢;exact hx
  |_=>simp only [rv] at hx ⊢<;>exact hx
 | .agg ys,y,hh,hx=>by
  cases y<;>unfold rv at hx ⊢<;>try exact hx
  exact Cg ys _ (by simpa only [deep] using hh) hx
 | .aF ys,y,hh,hx=>by
  cases y<;>unfold rv at hx ⊢<;>try exact hx
  exact Cg ys _ (by simpa only [deep] using hh) hx
 | .fn f ys,y,hh,hx=>by
  cases y<;>unfold rv at hx ⊢<;>try exact hx
  exact ⟨hx.1,Cg ys _ (by simpa only [deep] using hh) hx.2⟩
theorem Cg {h h':List (Nat×Ob)} {S:List (Nat×Nat)}:∀ (xs ys:List AV),(∀ b ∈ dF ys,get h' b=get h b)->au h S [] xs ys->au h' S [] xs ys
 |[],[],_,_=>by simp only [au]
 |x::xs,y::ys,hh,hx=>by
  simp only [au] at hx ⊢
  simp only [dF,List.mem_append] at hh
  exact ⟨Pf x y (fun b hb=>hh b (.inl hb)) hx.1,Cg xs ys (fun b hb=>hh b (.inr hb)) hx.2⟩
 |[],_::_,_,hx=>by simp only [au] at hx
 |_::_,[],_,hx=>by simp only [au] at hx
end
theorem ahb {C:Ctx} {ρ:Nat->Loc} {U:Nat->Prop} {w:World} {vals:Array Value} (hr:HR C ρ U h w) (hv:VL w (aP C ρ w) ρ U ys vals) (hx:au h [] [] xs ys):
 VL w (aP C (dH ρ [] []) w) (dH ρ [] []) (jN [] []) xs vals:=by
 have hl:=iU _ _ hx
 refine ⟨by rw [hl];exact hv.1,fun i x u hi hu=> ?_⟩
 obtain ⟨y,hy,hxy⟩:=iV _ _ hx i x hi
 exact lD hr (hv.2 i y u hy hu) x hxy
theorem Fn.Ch (hF:Fn P f xs [] r [] es) (nm:Nat) (ha:au h [] [] xs ys) (hes:es.all rowOk=true) (hna:∀ o ∈ es,lS o) (hm:es.length<=8) (hx:dX es.length r=true) (hr0:na r=true):
 jH P nm f ys h ⟨sh nm r,dB nm es,dF ys⟩:=by
 intro h' hh' Q hQ
 refine ⟨hF.1,fun C ρ U w vals hr hfr hvl=> ?_⟩
 have ha':=Cg xs ys hh' ha
 have hd:∀ g,¬ jq (dH ρ [] []) g:=fun g ⟨k,o,n,hk⟩=>by simp [dH,get] at hk
 let C':Ctx:=⟨w,aP C (dH ρ [] []) w,(fun _=>False),(fun _=>none),0,(fun g hg=>hg.elim),(fun i l hl=>by cases hl),(fun _=>False),(fun _ h=>h.elim)⟩
 have hok:∀ g,aP C (dH ρ [] []) w g->aP C' (dH ρ [] []) w g:=fun g hg=>⟨.inl hg,hg.2.1,hg.2.2⟩
 have hrc:HR C' (dH ρ [] []) (jN [] []) (gG 0 []) w:=by
  refine ⟨fun i o hi=>by simp [gG,dB,get] at hi,fun i _=>by simp [dH,get],fun i i' g o n o' n' h1 _=>absurd ⟨i,o,n,h1⟩ (hd g),rfl,rfl,rfl,Nat.le_refl _,
   fun g _ _ _=>rfl,fun g hg=>⟨hg.2.1,fun h=>h.elim,fun h=>h⟩,fun g ho=>absurd ho (hd g),fun i l hi=>by cases hi⟩
 have xW:=ahb hr hvl ha'
 have Pg:VL w (aP C' (dH ρ [] []) w) (dH ρ [] []) (jN [] []) xs vals:=xW.mono hok (fun _ _=>rfl) (fun _ h=>h) (fun _ _=> .inl rfl)
 refine (hF.2 C' _ _ w vals hrc (fun b hb=>by simp [jN] at hb) Pg).mono fun e w' hpost=> ?_
 obtain ⟨v,ρ1,U1,rfl,hr1,hv1⟩:=hpost
 obtain ⟨hR,hkeep⟩:=back (C':=C') (B:=[]) (nm:=nm) hr rfl (fun g=>by simp [C']) (fun i=>by simp [C']) hr1 (fun b hb=>by simp at hb) rfl (by simp) hes hm (cs:=[]) rfl (fun i cs h=>by simp at h) hfr (fun _ h=>h) (.inr ⟨rfl,hna⟩)
 refine ⟨v,sh nm r,_,iw ρ ρ1 nm es.length,Ac U nm es.length,rfl,hR,?_,hkeep,fun b hb=> ?_,?_⟩
 ·refine VR.Y1 (fun i hi=> ?_) (fun i hi=> .inr ⟨by omega,by omega⟩) hv1 hx hr0
  unfold iw
  rw [if_pos ⟨by omega,by omega⟩]
  congr 2;omega
 ·rcases hb with hb|hb
  ·exact .inl hb
  ·exact .inr ⟨hb.1,by omega⟩
 ·simpa [gq] using hQ
mutual
theorem Y8 {S:List (Nat×Nat)} {N:List Nat}:∀ (x:AV),x.pure=true->rv h S N x x
 | .v a,_=>by simp only [rv]
 | .sl sz xs,_=>by simp only [rv,and_self]
 | .dG cs j,_=>by simp only [rv,and_self]
 | .agg cs,hx=>by simp only [rv];exact vP cs (by simpa only [AV.pure] using hx)
 | .aF cs,hx=>by simp only [rv];exact vP cs (by simpa only [AV.pure] using hx)
 | .fn f cs,hx=>by simp only [rv,true_and];exact vP cs (by simpa only [AV.pure] using hx)
 | .own ..,hx=>by simp [AV.pure] at hx
 | .ptr ..,hx=>by simp [AV.pure] at hx
 | .rp ..,hx=>by simp [AV.pure] at hx
 | .mp ..,hx=>by simp [AV.pure] at hx
theorem vP {S:List (Nat×Nat)} {N:List Nat}:∀ (xs:List AV),dx xs=true->au h S N xs xs
 |[],_=>by simp only [au]
 |x::xs,hx=>by
  simp only [dx,Bool.and_eq_true] at hx
  simp only [au]
  exact ⟨Y8 x hx.1,vP xs hx.2⟩
end
theorem Y9 {S:List (Nat×Nat)} {N:List Nat} {x y:AV} (he:x=y) (hp:y.pure=true):rv h S N x y:=he▸Y8 _ (he▸hp)
theorem Fin.aD {res:List iJ} {r:AV} {t:List (Nat×AV)} (xs:List AV) (h1:jO t h res=some xs) (h2:iD h [] [] []=true) (h3:rv h [] [] r (ay xs)):Fin res r [] [] t h:=
 ⟨[],[],xs,h1,h2,by simp only [cZ],by simp only [gY],h3⟩
theorem Fin.bI {res:List iJ} {r:AV} {t:List (Nat×AV)} (xs:List AV) (h1:jO t h res=some xs) (h2:iD h [] [] []=true) (h3:(ay xs).pure=true) (h4:r=ay xs):Fin res r [] [] t h:=
 Fin.aD xs h1 h2 (Y9 h4 h3)
theorem Ci (nm:Nat):∀ (x:AV),x.pure=true->sh nm x=x:=by
 intro x
 refine AV.rec (motive_1:=fun x=>x.pure=true->sh nm x=x) (motive_2:=fun xs=>dx xs=true->kP nm xs=xs) (motive_3:=fun _=>True)
  ?_ ?_ ?_ ?_ ?_ ?_ ?_ ?_ ?_ ?_ ?_ ?_ ?_ ?_ x
 ·intro v _;simp only [sh]
 ·intro cs ih hx;simp only [sh];rw [ih (by simpa only [AV.pure] using hx)]
 ·intro cs ih hx;simp only [sh];rw [ih (by simpa only [AV.pure] using hx)]
 ·intro sz xs _ _;simp only [sh]
 ·intro b sz off len hx;simp [AV.pure] at hx
 ·intro b j hx;simp [AV.pure] at hx
 ·intro b sz k j hx;simp [AV.pure] at hx
 ·intro cs j _ _;simp only [sh]
 ·intro b hx;simp [AV.pure] at hx
 ·intro f cs ih hx;simp only [sh];rw [ih (by simpa only [AV.pure] using hx)]
 ·intro _;simp only [kP]
 ·intro c cs ih1 ih2 hx
  simp only [dx,Bool.and_eq_true] at hx
  simp only [kP];rw [ih1 hx.1,ih2 hx.2]
 ·trivial
 ·intros;trivial
mutual
theorem Ad {m:Nat}:∀ (x:AV),x.pure=true->dX m x=true
 | .v a,_=>by simp only [dX]
 | .sl sz xs,_=>by simp only [dX]
 | .dG cs j,_=>by simp only [dX]
 | .agg cs,hx=>by simp only [dX];exact H9 cs (by simpa only [AV.pure] using hx)
 | .aF cs,hx=>by simp only [dX];exact H9 cs (by simpa only [AV.pure] using hx)
 | .fn f cs,hx=>by simp only [dX];exact H9 cs (by simpa only [AV.pure] using hx)
 | .own ..,hx=>by simp [AV.pure] at hx
 | .ptr ..,hx=>by simp [AV.pure] at hx
 | .rp ..,hx=>by simp [AV.pure] at hx
 | .mp ..,hx=>by simp [AV.pure] at hx
theorem H9 {m:Nat}:∀ (xs:List AV),dx xs=true->mO m xs=true
 |[],_=>by simp only [mO]
 |x::xs,hx=>by
  simp only [dx,Bool.and_eq_true] at hx
  simp only [mO,Bool.and_eq_true]
  exact ⟨Ad x hx.1,H9 xs hx.2⟩
end
theorem xX {A:List Nat}:∀ (xs:List AV),dx xs=true->iW A xs xs
 |[],_=>by simp only [iW]
 |x::xs,hx=>by
  simp only [dx,Bool.and_eq_true] at hx
  simp only [iW]
  refine ⟨?_,xX xs hx.2⟩
  split
  ·simp [AV.pure] at hx
  ·exact ⟨rfl,hx.1⟩
theorem Ia {A:List Nat}:∀ (l:List (List AV)),xV l=true->qI A l l
 |[],_=>by simp only [qI]
 |x::xs,hx=>by
  simp only [xV,Bool.and_eq_true] at hx
  simp only [qI]
  exact ⟨xX x hx.1,Ia xs hx.2⟩
theorem Fn.Ib (hF:Fn P f xs [] r [] []) (hp:dx xs=true) (hr:r.pure=true):jH P nm f xs h ⟨r,[],[]⟩:=by
 have:=hF.ug (h:=h) nm [] [] (xX xs hp) (by simp only [pK]) (by simp) (by simp) rfl (by simp only [qI]) rfl (by simp) (Ad r hr)
 rw [Ci nm r hr] at this
 exact this
theorem Fn.Za (hF:Fn P f xs [] r [] []) (ha:au h [] [] xs ys) (hr:r.pure=true) (hn:na r=true):jH P nm f ys h ⟨r,[],dF ys⟩:=by
 have:=hF.Ch (h:=h) nm ha rfl (by simp) (by simp) (Ad r hr) hn
 rw [Ci nm r hr] at this
 exact this
theorem aQ {k:List It} {Q:Exit->St->Prop} {n n':Nat} {t:List (Nat×AV)} {d:Option Nat} {l:List aG} (hF:Fn P f xs [] r [] []) (hp:dx xs=true) (hr:r.pure=true)
 (hk:go P (.ops (nm+8) n' l::k) Q n (bP t d r) h):nW P nm f xs d n' l k Q n t h:=xS (hF.Ib hp hr) hk
theorem bX {k:List It} {Q:Exit->St->Prop} {n n':Nat} {t:List (Nat×AV)} {d:Option Nat} {l ops:List aG} {acc:List bQ} (hF:Fn P f xs [] r [] []) (hp:dx xs=true) (hr:r.pure=true)
 (hk:go P (.cO (nm+8) n' l ops (([],[])::acc)::k) Q n (bP t d r) h):nY P nm f xs d n' l ops acc k Q n t h:=xU (hF.Ib hp hr) hk
theorem Fin.kR {res:List iJ} {r:AV} {t:List (Nat×AV)} {cs cs':List AV} (xs:List AV) (h1:jO t h res=some xs) (hb:get h 0=some (.box cs)) (h2:iD h [(0,0)] [] [(0,.box cs')]=true)
 (h3:au h [(0,0)] [] cs' cs) (h4:rv h [(0,0)] [] r (ay xs)):Fin res r [cs'] [] t h:=by
 have e:outs [cs'] []=[(0,.box cs')]:=rfl
 refine ⟨[(0,0)],[],xs,h1,by rw [e];exact h2,?_,by simp only [gY],h4⟩
 rw [e]
 simp only [cZ,get,if_true,hb,and_true,bO]
 exact h3
theorem Fin.mQ {res:List iJ} {r:AV} {t:List (Nat×AV)} {cs cs':List AV} (xs:List AV) (h1:jO t h res=some xs) (hb:get h 0=some (.box cs)) (h2:iD h [(0,0)] [] [(0,.box cs)]=true)
 (h3:(ay xs).pure=true) (h4:dx cs=true) (h5:cs'=cs) (h6:r=ay xs):Fin res r [cs'] [] t h:=by
 subst h5
 exact Fin.kR xs h1 hb h2 (vP _ h4) (Y9 h6 h3)
theorem d9 {k:List It} {Q:Exit->St->Prop} {n n':Nat} {t:List (Nat×AV)} {d:Option Nat} {l:List aG} {b:Nat} {cs cs':List AV} (hF:Fn P f xs [cs] r [cs'] []) (ha:iW [b] xs ys)
 (hb:get h b=some (.box cs)) (hp:dx cs=true) (hp':dx cs'=true) (hr:r.pure=true) (hk:go P (.ops (nm+8) n' l::k) Q n (bP t d r) ((b,.box cs')::h)):nW P nm f ys d n' l k Q n t h:=by
 have:=hF.ug (h:=h) nm [b] [cs'] ha (by simp only [pK,and_true,hb];exact xX cs hp) (by simp) (by simp) rfl (Ia [cs'] (by simp only [xV,hp',Bool.and_true])) rfl (by simp) (Ad r hr)
 rw [Ci nm r hr] at this
 exact xS this hk
theorem uh {k:List It} {Q:Exit->St->Prop} {n n':Nat} {t:List (Nat×AV)} {d:Option Nat} {l ops:List aG} {acc:List bQ} {b:Nat} {cs cs':List AV} (hF:Fn P f xs [cs] r [cs'] []) (ha:iW [b] xs ys)
 (hb:get h b=some (.box cs)) (hp:dx cs=true) (hp':dx cs'=true) (hr:r.pure=true) (hk:go P (.cO (nm+8) n' l ops (([b],[b])::acc)::k) Q n (bP t d r) ((b,.box cs')::h)):
 nY P nm f ys d n' l ops acc k Q n t h:=by
 have:=hF.ug (h:=h) nm [b] [cs'] ha (by simp only [pK,and_true,hb];exact xX cs hp) (by simp) (by simp) rfl (Ia [cs'] (by simp only [xV,hp',Bool.and_true])) rfl (by simp) (Ad r hr)
 rw [Ci nm r hr] at this
 exact xU this hk
end
end Go.Eng
namespace Go.Eng
open Go
theorem ahc (x:Value):(AV.v x).one=x.oneCell':=rfl
theorem ahd (cs:List AV):(AV.agg cs).one=false:=rfl
theorem ahe (cs:List AV):(AV.aF cs).one=false:=rfl
theorem ahf (sz:Nat) (xs:List (List AV)):(AV.sl sz xs).one=true:=rfl
theorem ahg (b sz off len:Nat):(AV.own b sz off len).one=true:=rfl
theorem ahh (b j:Nat):(AV.ptr b j).one=true:=rfl
theorem ahi (b sz k j:Nat):(AV.rp b sz k j).one=true:=rfl
theorem ahj (cs:List AV) (j:Nat):(AV.dG cs j).one=true:=rfl
theorem ahk (b:Nat):(AV.mp b).one=true:=rfl
theorem ahl (f:FuncId) (cs:List AV):(AV.fn f cs).one=true:=rfl
attribute [go_sem] ahc ahd ahe ahf ahg ahh ahi ahj ahk ahl
attribute [go_sem] afg O6 go_skip O7 go_ret afh afi O8
attribute [go_sem] afj afk O9 HZ go_region afl afm afn
attribute [go_sem] afo afp afq afr afs aft afu afv
attribute [go_sem] afw afx afy afz afA afB afC afD
attribute [go_sem] afE afF afG afH afI afJ afK afL
attribute [go_sem] afM afN afO afP afQ afR afS afT
attribute [go_sem] afU afV afW afX afY afZ af0 af2 af3
attribute [go_sem] af4 go_call af5 af6 af7 af8 af9 aga
attribute [go_sem] agb agc agd agf agh agi agj agk
attribute [go_sem] agl agm agn agp agq agr ags agt
attribute [go_sem] agu agv agw agx agy agz agA agB
attribute [go_sem] agC agD agE agF agG agH agI agJ
attribute [go_sem] agK agL agM agN agO agP agQ agR agS
attribute [go_sem] agT agU Y4 agV agW agX agY agZ
attribute [go_sem] ag0 ag1 ag2 ag6 ag7
attribute [go_sem] aL ev jZ get E.ok bP mH mG
attribute [go_sem] Value.oneCell' kM mI zK tN tO rP nO nM tT GX tQ eP GV BJ qE
attribute [go_sem] splice jF dx AV.pure j5 vE xD bound
attribute [go_sem] bytesOf rQ vD dK fe AV.jI pJ gG
attribute [go_sem] dB gq jO ay sh kP H8 au
attribute [go_sem] outs nS iW pK xV eG cZ gY
attribute [go_sem] bO dX mO na jP rowOk deep dF
attribute [go_sem] get_nil
attribute [go_sem] true_and and_true List.append_nil List.nil_append List.cons_append List.length_cons List.length_nil List.map_cons
attribute [go_sem] List.map_nil Bool.and_true Bool.and_self Bool.not_true Bool.not_false Bool.false_eq_true Bool.true_and List.getElem?_cons_zero
attribute [go_sem] List.getElem?_cons_succ Nat.succ_eq_add_one Nat.zero_add Nat.add_zero List.take_zero List.drop_zero List.take_succ_cons List.drop_succ_cons
attribute [go_sem] List.take_nil List.drop_nil
end Go.Eng
namespace Go.Eng
open Go Go.RowKit
def Arg (w:World) (x:AV) (u:Value):Prop:=VP w (fun g=>g<w.heap.size) x u
theorem Fn.said {P:Program} {f:FuncId} {xs:List AV} {v:Value} (hF:Fn P f xs [] (.v v) [] []) (w:World) (vals:Array Value) (hl:xs.length=vals.size)
 (hv:∀ (i:Nat) (x:AV) (u:Value),xs[i]? =some x->vals[i]? =some u->Arg w x u):Calls P f vals w fun e w'=>e= .returned v/\Below w.heap.size w w':=by
 let C:Ctx:=⟨w,fun g=>g<w.heap.size,fun _=>False,fun _=>none,0,fun _ h=>h.elim,(fun _ _ h=>by cases h),(fun _=>False),fun _ h=>h.elim⟩
 have hno:∀ g,¬ jq (fun _:Nat=>Loc.dead) g:=fun g ⟨b,o,n,h⟩=>by cases h
 have hr:HR C (fun _=> .dead) (fun _=>False) (gG 0 []) w:=by
  refine ⟨fun b o h=> ?_,fun _ _=>rfl,fun b b' g o n o' n' h=> ?_,rfl,rfl,rfl,Nat.le_refl _,fun _ _ _ _=>rfl,fun g h=>⟨h,(fun h=>h),fun h=>h⟩,fun g h=>(hno g h).elim,fun b l h=> ?_⟩
  ·cases h
  ·cases h
  ·cases h
 refine (hF.2 C (fun _=> .dead) (fun _=>False) w vals hr (fun b h=>h.elim) ⟨hl,fun i x u h1 h2=> .p ((hv i x u h1 h2).mono (fun g hg=>⟨.inl hg,hg,hno g⟩) (fun _ _=>rfl))⟩).mono fun e w' h=> ?_
 obtain ⟨v',ρ',U',rfl,h1,h2⟩:=h
 obtain rfl:=h2.dI
 refine ⟨rfl,h1.os,h1.tape,h1.output,h1.size,fun k hk=>h1.old k hk (fun h=>h) fun h=>h⟩
end Go.Eng
namespace Go.Eng
open Go
def stay (h:List (Nat×Ob)) (Z:List Nat):List (Nat×Nat):=((h.map Prod.fst).filter fun k=> !Z.contains k).map fun k=>(k,k)
def kills (Z:List Nat):List (Nat×Ob):=Z.map fun k=>(k,Ob.dead)
theorem Ae (h:List (Nat×Ob)) (Z:List Nat) (k:Nat):get (stay h Z) k=if k ∈ h.map Prod.fst/\k ∉ Z then some k else none:=by
 unfold stay
 induction h with
 |nil=>simp [get]
 |cons p h ih=>
  obtain ⟨j,o⟩:=p
  simp only [List.map_cons]
  by_cases hj:j ∈ Z
  ·rw [List.filter_cons_of_neg (by simp [hj]),ih]
   by_cases e:j=k
   ·subst e;simp [hj]
   ·simp only [List.mem_cons,show ¬ k=j from fun h=>e h.symm,false_or]
  ·rw [List.filter_cons_of_pos (by simp [hj]),List.map_cons]
   by_cases e:j=k
   ·subst e;simp [get,hj]
   ·rw [jd _ _ _ _ e,ih]
    simp only [List.mem_cons,show ¬ k=j from fun h=>e h.symm,false_or]
section
variable {C:Ctx} {ρ:Nat->Loc} {U:Nat->Prop} {h:List (Nat×Ob)} {w:World}
def fJ (ρ:Nat->Loc) (Z:List Nat) (k:Nat):Loc:=if k ∈ Z then .dead else ρ k
theorem HR.kills (hr:HR C ρ U h w):∀ (Z:List Nat),(∀ b ∈ Z,∃ e sz xs,get h b=some (.row e sz xs))->∃ U',(∀ k,U' k->U k)/\(∀ k,U k->U' k)/\HR C (fJ ρ Z) U' (kills Z++h) w
 |[],_=>⟨U,fun _ h=>h,fun _ h=>h,by
  have:fJ ρ []=ρ:=by funext k;simp [fJ]
  rw [this];exact hr⟩
 |b::Z,hz=>by
  obtain ⟨U',h1,h2,h3⟩:=HR.kills hr Z fun b hb=>hz b (List.mem_cons_of_mem _ hb)
  obtain ⟨e,sz,xs,hb⟩:=hz b (List.mem_cons_self ..)
  have hub:U b:=(hr.hp b _ hb).1
  have hnb:∀ cs,get (Go.Eng.kills Z++h) b≠some (.box cs):=by
   intro cs hg
   rw [get_append] at hg
   cases hk:get (Go.Eng.kills Z) b with
   |none=>rw [hk] at hg;simp only at hg;rw [hb] at hg;cases hg
   |some o=>
    rw [hk] at hg
    simp only [Option.some.injEq] at hg
    subst hg
    have:=get_mem hk
    simp [Go.Eng.kills] at this
  have hm:Moved C (fJ ρ Z) U' (Go.Eng.kills Z++h) w b .dead w:=⟨rfl,rfl,rfl,Nat.le_refl _,fun _ _ _=>rfl,.inr (.inl ⟨h2 _ hub,rfl,hnb⟩)⟩
  have:=hm.hr h3 (ob:= .dead) (fun ⟨cs,hc⟩=>(hnb cs hc).elim) rfl
  refine ⟨ig U' b,fun k hk=> ?_,fun k hk=> .inl (h2 k hk),?_⟩
  ·rcases hk with hk|rfl
   ·exact h1 k hk
   ·exact hub
  ·have e:fJ ρ (b::Z)=up (fJ ρ Z) b .dead:=by
    funext k
    simp only [fJ,up,List.mem_cons]
    by_cases e:k=b
    ·simp [e]
    ·simp [e]
   rw [e];exact this
theorem Zb {P:Program} {nm:Nat} {f:FuncId} {args args':List AV} {Q:AV->List (Nat×Ob)->Prop} (Z:List Nat)
 (hz:∀ b ∈ Z,∃ e sz xs,get h b=some (.row e sz xs)) (ha:au h (stay h Z) [] args' args) (hk:rR P nm f args' (kills Z++h) Q):rR P nm f args h Q:=by
 refine ⟨hk.1,fun C ρ U w vals hr hU hv=> ?_⟩
 obtain ⟨U',vQ,vR,hr'⟩:=hr.kills Z hz
 have hloc:dH ρ (stay h Z) []=fJ ρ Z:=by
  funext k
  simp only [dH,Ae,fJ]
  by_cases hkz:k ∈ Z
  ·simp [hkz]
  ·by_cases hkh:k ∈ h.map Prod.fst
   ·rw [if_pos ⟨hkh,hkz⟩,if_neg hkz]
   ·rw [if_neg (fun h=>hkh h.1),if_neg hkz]
    have:get h k=none:=by
     cases hg:get h k with
     |none=>rfl
     |some o=>exact absurd (List.mem_map.2 ⟨_,get_mem hg,rfl⟩) hkh
    rw [hr.hd k this];simp
 have hnu:∀ k,jN (stay h Z) [] k->U' k:=by
  intro k hk
  rcases hk with hk|hk
  ·obtain ⟨c,hc⟩:=vM hk
   rw [Ae] at hc
   split at hc
   ·rename_i h1
    obtain ⟨o,ho⟩:=vM h1.1
    exact vR k (hr.hp k o ho).1
   ·cases hc
  ·simp at hk
 have pI:Later U ρ (fJ ρ Z):=fun b _=>by
  unfold fJ
  by_cases e:b ∈ Z
  ·rw [if_pos e];exact .inr rfl
  ·rw [if_neg e];exact .inl rfl
 have Ph:∀ g,aP C ρ w g->aP C (fJ ρ Z) w g:=fun g hg=>⟨hg.1,hg.2.1,fun ⟨b,o,n,hb⟩=>by
  unfold fJ at hb
  split at hb
  ·cases hb
  ·exact hg.2.2 ⟨b,o,n,hb⟩⟩
 have hl:=iU _ _ ha
 have hv':VL w (aP C (fJ ρ Z) w) (fJ ρ Z) U' args' vals:=by
  refine ⟨by rw [hl];exact hv.1,fun i x u hi hu=> ?_⟩
  obtain ⟨y,hy,hxy⟩:=iV _ _ ha i x hi
  have:=lD hr (hv.2 i y u hy hu) x hxy
  rw [hloc] at this
  exact this.mono (fun _ h=>h) (fun _ _=>rfl) hnu (fun _ _=> .inl rfl)
 refine (hk.2 C (fJ ρ Z) U' w vals hr' (fun b hb=>hU b (vQ b hb)) hv').mono fun e w' hpost=> ?_
 obtain ⟨v,r,h',ρ',xJ,rfl,h1,h2,h3,h4,h5⟩:=hpost
 exact ⟨v,r,h',ρ',xJ,rfl,h1,h2,fun x u hx=>h3 x u (hx.mono Ph (fun _ _=>rfl) vR pI),fun b hb=>(h4 b hb).imp (vQ b) id,h5⟩
end
end Go.Eng
namespace Go.Eng
open Go
theorem Arg.val (w:World) (u:Value):Arg w (.v u) u:= .v u
theorem Arg.nil (w:World) (sz:Nat):Arg w (.sl sz []) (.slice none 0 0):= .fZ
theorem Arg.ints {w:World} {k:IntKind} {x:Addr} {len cap:Nat} {zs:List Int} (hl:len<=cap) (hz:zs.length=cap)
 (hc:∀ i,i<zs.length->w.cell? (x.add i)=some (.int k (zs.getD i 0))):Arg w (.sl 1 ((zs.take len).map fun z=>[.v (.int k z)])) (.slice (some x) len cap):=by
 have hlen:((zs.take len).map fun z=>[AV.v (.int k z)]).length=len:=by simp;omega
 have hel:∀ (i:Nat) (e:List AV),((zs.take len).map fun z=>[AV.v (.int k z)])[i]? =some e->i<len/\e=[.v (.int k (zs.getD i 0))]:=by
  intro i e h
  have h1:i<len:=by rw [<-hlen];exact (List.getElem?_eq_some_iff.1 h).1
  refine ⟨h1,?_⟩
  rw [List.getElem?_map,List.getElem?_take_of_lt h1] at h
  rw [List.getD_eq_getElem?_getD]
  cases hz:zs[i]? with
  |none=>rw [hz] at h;cases h
  |some z=>rw [hz] at h;simp only [Option.map_some,Option.some.injEq] at h;rw [<-h];rfl
 have hadd:∀ i,i<zs.length->w.cell? ⟨x.block,x.off+i,none⟩=some (.int k (zs.getD i 0)):=by
  intro i hi
  have h:=hc i hi
  have hs:=World.cell?_spot h
  unfold Addr.add at h hs
  split at h
  ·rename_i e
   subst e
   simp only [if_true] at hs
   obtain ⟨b,o,s⟩:=x
   simp only at hs
   subst hs
   exact h
  ·exact h
 refine .sl x len cap (fun i _=> .int k (zs.getD i 0)) hlen.symm hl (fun h=> ?_) (fun i e h=>by obtain ⟨_,rfl⟩:=hel i e h;rfl) (fun i e j c h hj=> ?_) (fun i e j c h hj=> ?_)
 ·have h0:0<zs.length:=by rw [hlen] at h;omega
  have h1:=hc 0 h0
  simp only [Addr.add,if_true] at h1
  refine ⟨World.cell?_spot h1,?_⟩
  unfold World.cell? at h1
  split at h1
  ·rename_i c a b hb
   exact (Array.getElem?_eq_some_iff.1 hb).1
  ·cases h1
 ·obtain ⟨h1,rfl⟩:=hel i e h
  have hj0:j=0:=by
   have:=(List.getElem?_eq_some_iff.1 hj).1
   simpa using this
  subst hj0
  simp only [Nat.mul_one,Nat.add_zero]
  exact ⟨hadd i (by omega),rfl⟩
 ·obtain ⟨h1,rfl⟩:=hel i e h
  have hj0:j=0:=by
   have:=(List.getElem?_eq_some_iff.1 hj).1
   simpa using this
  subst hj0
  simp only [List.getElem?_cons_zero,Option.some.injEq] at hj
  subst hj
  exact .v _
theorem VR.rn {w w':World} {ok ok':Nat->Prop} {ρ ρ':Nat->Loc} {U U':Nat->Prop} {S:List (Nat×Nat)} (hS:∀ k b,get S k=some b->U' k/\ρ' k=ρ b) (hok:∀ g,ok g->ok' g)
 (hw:∀ g,ok g->w'.heap[g]? =w.heap[g]?) {y:AV} {u:Value} (h:VR w ok ρ U y u):∀ x,rv [] S [] x y->VR w' ok' ρ' U' x u:=by
 have kp:∀ {y:AV} {u:Value},VP w ok y u->∀ x,rv [] S [] x y->VR w' ok' ρ' U' x u:=fun h=>by
  induction h with
  |v a=>
   intro x hx
   cases x with
   |v b=>simp only [rv] at hx;cases hx;exact .p (.v _)
   |sl sz ys=>
    unfold rv at hx
    split at hx
    ·rename_i e;cases e
    ·rename_i e;cases e;subst hx;exact .p .fZ
    ·rename_i e;cases e
    ·exact hx.elim
   |own k sz off len=>
    unfold rv at hx
    split at hx
    ·rename_i e;cases e
    ·simp at hx
    ·exact hx.elim
   |_=>simp only [rv] at hx
  |agg hl hc ih=>
   intro x hx
   cases x<;>simp only [rv] at hx<;>try (cases hx;done)
   have h1:=iU _ _ hx
   refine .agg (by omega) fun i c u hi hu=> ?_
   obtain ⟨z,h2,h3⟩:=iV _ _ hx i c hi
   exact ih i z u h2 hu c h3
  |aF hl hc ih=>
   intro x hx
   cases x<;>simp only [rv] at hx<;>try (cases hx;done)
   have h1:=iU _ _ hx
   refine .aF (by omega) fun i c u hi hu=> ?_
   obtain ⟨z,h2,h3⟩:=iV _ _ hx i c hi
   exact ih i z u h2 hu c h3
  |fn hf hl hc ih=>
   intro x hx
   cases x<;>simp only [rv] at hx<;>try (cases hx;done)
   obtain ⟨rfl,hx⟩:=hx
   have h1:=iU _ _ hx
   refine .fn hf (by omega) fun i c u hi hu=> ?_
   obtain ⟨z,h2,h3⟩:=iV _ _ hx i c hi
   exact ih i z u h2 hu c h3
  |mD h hc ih=>
   intro x hx
   cases x<;>simp only [rv] at hx<;>try (cases hx;done)
   obtain ⟨rfl,hx⟩:=hx
   rename_i ys
   match ys,hx with
   |[y],hx=>
    simp only [au,and_true] at hx
    have h2:=ih y hx
    cases y<;>simp only [rv] at hx<;>try (cases hx;done)
    obtain ⟨rfl,rfl⟩:=hx
    exact .p (.mD h2.rM hc)
   |[],hx=>simp only [au] at hx
   |_::_::_,hx=>simp only [au,and_false] at hx
  |fZ=>
   intro x hx
   cases x<;>simp only [rv] at hx<;>try (cases hx;done)
   obtain ⟨rfl,rfl⟩:=hx
   exact .p .fZ
  |sl a n cap f hn hcap hk hl hc hv ih=>
   intro x hx
   cases x<;>simp only [rv] at hx<;>try (cases hx;done)
   obtain ⟨rfl,rfl⟩:=hx
   exact .p ((VP.sl a n cap f hn hcap hk hl hc hv).mono hok hw)
  |dG g o f hk hc hv ih=>
   intro x hx
   cases x<;>simp only [rv] at hx<;>try (cases hx;done)
   obtain ⟨rfl,rfl⟩:=hx
   exact .p ((VP.dG g o f hk hc hv).mono hok hw)
 induction h with
 |p h=>exact kp h
 |agg hl hc ih=>
  intro x hx
  cases x<;>simp only [rv] at hx<;>try (cases hx;done)
  have h1:=iU _ _ hx
  refine .agg (by omega) fun i c u hi hu=> ?_
  obtain ⟨z,h2,h3⟩:=iV _ _ hx i c hi
  exact ih i z u h2 hu c h3
 |aF hl hc ih=>
  intro x hx
  cases x<;>simp only [rv] at hx<;>try (cases hx;done)
  have h1:=iU _ _ hx
  refine .aF (by omega) fun i c u hi hu=> ?_
  obtain ⟨z,h2,h3⟩:=iV _ _ hx i c hi
  exact ih i z u h2 hu c h3
 |fn hf hl hc ih=>
  intro x hx
  cases x<;>simp only [rv] at hx<;>try (cases hx;done)
  obtain ⟨rfl,hx⟩:=hx
  have h1:=iU _ _ hx
  refine .fn hf (by omega) fun i c u hi hu=> ?_
  obtain ⟨z,h2,h3⟩:=iV _ _ hx i c hi
  exact ih i z u h2 hu c h3
 |own hu ho=>
  intro x hx
  cases x with
  |own k sz' off' len'=>
   simp only [rv] at hx
   obtain ⟨h1,rfl,rfl,rfl⟩:=hx
   obtain ⟨h2,h3⟩:=hS _ _ h1
   exact .own h2 (by rw [h3];exact ho)
  |sl sz' ys=>simp [rv,get] at hx
  |dG cs j=>simp [rv] at hx
  |_=>simp only [rv] at hx<;>cases hx
 |ptr a hu ha=>
  intro x hx
  cases x with
  |ptr k j=>
   simp only [rv] at hx
   obtain ⟨h1,rfl⟩:=hx
   obtain ⟨h2,h3⟩:=hS _ _ h1
   exact .ptr a h2 (by rw [h3];exact ha)
  |_=>simp only [rv] at hx<;>cases hx
 |rp a hu ha=>
  intro x hx
  cases x with
  |rp k sz i j=>
   simp only [rv] at hx
   obtain ⟨h1,rfl,rfl,rfl⟩:=hx
   obtain ⟨h2,h3⟩:=hS _ _ h1
   exact .rp a h2 (by rw [h3];exact ha)
  |dG cs j=>simp [rv,get] at hx
  |_=>simp only [rv] at hx<;>cases hx
 |mp a hu ha=>
  intro x hx
  cases x with
  |mp k=>
   simp only [rv] at hx
   obtain ⟨h2,h3⟩:=hS _ _ hx
   exact .mp a h2 (by rw [h3];exact ha)
  |_=>simp only [rv] at hx<;>cases hx
theorem fM.rn {w w':World} {ok ok':Nat->Prop} {ρ ρ':Nat->Loc} {U U':Nat->Prop} {S:List (Nat×Nat)} (hS:∀ k b,get S k=some b->U' k/\ρ' k=ρ b) (hok:∀ g,ok g->ok' g)
 (hw:∀ g,ok g->w'.heap[g]? =w.heap[g]?) {l:Loc} (hl:∀ g o n,l= .at g o n->w'.heap[g]? =w.heap[g]?) {x y:Ob} (h:fM w ok ρ U l y) (hx:bO [] S [] x y):fM w' ok' ρ' U' l x:=by
 cases y with
 |box cs=>
  cases x with
  |box ds=>
   simp only [bO] at hx
   obtain ⟨g,o,n,e,cells,h1,h2,h3,h4,h5⟩:=h
   have h6:=iU _ _ hx
   refine ⟨g,o,n,e,cells,h1,(hl g o n h1).trans h2,h3,by omega,fun j c hj=> ?_⟩
   obtain ⟨z,h7,h8⟩:=iV _ _ hx j c hj
   obtain ⟨u,hu,hv⟩:=h5 j z h7
   exact ⟨u,hu,hv.rn hS hok hw c h8⟩
  |_=>simp only [bO] at hx
 |row e sz xs=>
  cases x with
  |row e' sz' ys=>
   simp only [bO] at hx
   obtain ⟨rfl,rfl,rfl⟩:=hx
   rcases h with h|⟨g,o,n,cells,h1,h2,h3,h4,h5,h6⟩
   ·exact .inl h
   ·refine .inr ⟨g,o,n,cells,h1,(hl g o n h1).trans h2,h3,h4,h5,fun k x j c hk hj=> ?_⟩
    obtain ⟨u,hu,h1c,hv⟩:=h6 k x j c hk hj
    exact ⟨u,hu,h1c,hv.mono hok hw⟩
  |_=>simp only [bO] at hx
 |map es=>
  cases x with
  |map es'=>
   simp only [bO] at hx
   obtain ⟨g,dz,clock,h1,h2,h3,h4⟩:=h
   obtain ⟨hl',O1⟩:=O0 _ _ hx
   refine ⟨g,dz,clock,h1,(hl g 0 0 h1).trans h2,by omega,fun i k c m hi he=> ?_⟩
   obtain ⟨z,h7,h8⟩:=O1 i k c hi
   exact ⟨(h4 i k z m h7 he).1,(h4 i k z m h7 he).2.rn hS hok hw c h8⟩
  |_=>simp only [bO] at hx
 |dead=>cases x<;>simp only [bO] at hx
def gu (P:Program) (f:FuncId) (xs:List AV) (bs:List (List AV)) (gs:List Ob) (r:AV) (bs':List (List AV)) (es:List Ob):Prop:=
 Enters P f/\∀ (C:Ctx) (ρ:Nat->Loc) (U:Nat->Prop) (w:World) (vals:Array Value),HR C ρ U (outs bs gs) w->(∀ b,U b->b<8)->VL w (aP C ρ w) ρ U xs vals->
  Calls P f vals w fun e w'=>∃ v ρ' U',e= .returned v/\HR C ρ' U' (outs bs' es) w'/\VR w' (aP C ρ' w') ρ' U' r v
theorem gu.aO {P:Program} {f:FuncId} {sc:eY} {res:List iJ} {nt:Nat} (hok:aA P f sc res nt) {xs:List AV} {bs:List (List AV)} {gs:List Ob} {r:AV} {bs':List (List AV)} {es:List Ob}
 (hn:xs.length<=nt) (hgo:go P [.code sc] (H8 res r bs' es) 8 (pJ 0 xs) (outs bs gs)):gu P f xs bs gs r bs' es:=by
 obtain ⟨⟨fn,c,hf,hnm,hb,hs,hres,hr4,rfl⟩,hoc,hm⟩:=hok
 refine ⟨⟨fn,hf,hnm,by rw [hb];rfl⟩,fun C ρ U w vals hr hU hv=> ?_⟩
 let C1:Ctx:={C with nt:=fn.ntmps}
 have hr1:HR C1 ρ U (outs bs gs) w:=⟨hr.hp,hr.hd,hr.inj,hr.os,hr.tape,hr.output,hr.size,hr.old,hr.kL,hr.dJ,hr.fix⟩
 refine calls_of_wp hf hb (xL (C:=C1) hm c sc hs hoc _ _ ⟨8,pJ 0 xs,outs bs gs⟩ _ w ⟨ρ,U,⟨hr1,fun k x hk=> ?_,rfl,?_⟩,fun b hb=>hU b hb⟩ hgo fun e s a w' hA hQ=> ?_)
 ·rw [H7] at hk
  simp only [Nat.zero_le,if_true,Nat.sub_zero] at hk
  have hlt:k<vals.size:=by rw [<-hv.1];exact (List.getElem?_eq_some_iff.1 hk).1
  refine ⟨vals[k],?_,hv.2 k x _ hk (Array.getElem?_eq_getElem hlt)⟩
  simp [Array.getElem?_append,hlt]
 ·have:=hv.1
  simp only [Array.size_append,Array.size_replicate]
  show _=fn.ntmps
  omega
 ·have fin:Fin res r bs' es s.t s.h->a.defers=[]/\∃ v,(results fn a.tmps).run P w'= .ok v w'/\∃ v_1 ρ' U',Ending.returned v=Ending.returned v_1/\HR C ρ' U' (outs bs' es) w'/\VR w' (aP C ρ' w') ρ' U' r v_1:=fun hF=>by
   obtain ⟨S,N,ys,h1,h2,h3,h4,h5⟩:=hF
   obtain ⟨ρ1,U1,hS,_⟩:=hA
   obtain ⟨vs,h6,h7,h8,h9⟩:=Cf (P:=P) hS.hr hS.tm fn.results.toList res ys hres h1
   refine ⟨hS.defers,_,O3 a.tmps w' rfl h6 hr4 h8,_,dH ρ1 S N,jN S N,rfl,?_,?_⟩
   ·have:=xO hS.hr h2 h3 h4
    exact ⟨this.hp,this.hd,this.inj,this.os,this.tape,this.output,this.size,this.old,this.kL,this.dJ,this.fix⟩
   ·exact lD hS.hr (O4 (by omega) h9) r h5
  cases e with
  |normal=>exact fin hQ
  |ret=>exact fin hQ
  |exit i=>exact hQ.elim
  |goto l=>exact hQ.elim
  |panic ch=>exact hQ.elim
  |outgrown=>exact hQ.elim
def dS (B G:List Nat):List (Nat×Nat):=(List.range B.length).map (fun i=>(i,B[i]?.getD 0))++(List.range G.length).map (fun i=>(4+i,G[i]?.getD 0))
def ji (B:List Nat) (nm m:Nat):List (Nat×Nat):=(List.range B.length).map (fun i=>(B[i]?.getD 0,i))++(List.range m).map (fun i=>(nm+i,4+i))
theorem get_of_mem {α:Type} {l:List (Nat×α)} {k:Nat} {x:α} (hm:(k,x) ∈ l) (hn:(l.map Prod.fst).Nodup):get l k=some x:=by
 induction l with
 |nil=>simp at hm
 |cons p l ih=>
  obtain ⟨j,y⟩:=p
  simp only [List.map_cons,List.nodup_cons] at hn
  simp only [List.mem_cons,Prod.mk.injEq] at hm
  rcases hm with ⟨rfl,rfl⟩|hm
  ·simp [get]
  ·rw [jd]
   ·exact ih hm hn.2
   ·intro e;subst e;exact hn.1 (List.mem_map.2 ⟨_,hm,rfl⟩)
theorem rV {B G:List Nat} {k b:Nat} (h:get (dS B G) k=some b):(B[k]? =some b)\/(4<=k/\G[k - 4]? =some b):=by
 have:=get_mem h
 simp only [dS,List.mem_append,List.mem_map,List.mem_range,Prod.mk.injEq] at this
 rcases this with ⟨i,hi,rfl,rfl⟩|⟨i,hi,rfl,rfl⟩
 ·left;simp [hi]
 ·right;refine ⟨by omega,?_⟩;simp [hi]
theorem Cj {B G:List Nat} {k b:Nat} (h:B[k]? =some b) (h4:B.length<=4):get (dS B G) k=some b:=by
 have hk:=(List.getElem?_eq_some_iff.1 h).1
 refine get_of_mem (List.mem_append_left _ (List.mem_map.2 ⟨k,List.mem_range.2 hk,by simp [h]⟩)) ?_
 simp only [dS,List.map_append,List.map_map]
 rw [List.nodup_append]
 refine ⟨?_,?_,?_⟩
 ·have:((fun x:Nat×Nat=>x.1)∘fun i=>(i,B[i]?.getD 0))=id:=rfl
  show (List.map ((fun x:Nat×Nat=>x.1)∘fun i=>(i,B[i]?.getD 0)) _).Nodup
  rw [this,List.map_id];exact List.nodup_range
 ·unfold List.Nodup
  rw [List.pairwise_map]
  exact List.Pairwise.imp (fun h e=>h (by simp only [Function.comp] at e;omega)) List.nodup_range
 ·intro a ha b hb
  simp only [List.mem_map,List.mem_range,Function.comp] at ha hb
  obtain ⟨i,hi,rfl⟩:=ha
  obtain ⟨j,hj,rfl⟩:=hb
  omega
theorem ahm {B G:List Nat} {i b:Nat} (h:G[i]? =some b) (h4:B.length<=4):get (dS B G) (4+i)=some b:=by
 have hk:=(List.getElem?_eq_some_iff.1 h).1
 refine get_of_mem (List.mem_append_right _ (List.mem_map.2 ⟨i,List.mem_range.2 hk,by simp [h]⟩)) ?_
 simp only [dS,List.map_append,List.map_map]
 rw [List.nodup_append]
 refine ⟨?_,?_,?_⟩
 ·have:((fun x:Nat×Nat=>x.1)∘fun i=>(i,B[i]?.getD 0))=id:=rfl
  show (List.map ((fun x:Nat×Nat=>x.1)∘fun i=>(i,B[i]?.getD 0)) _).Nodup
  rw [this,List.map_id];exact List.nodup_range
 ·unfold List.Nodup
  rw [List.pairwise_map]
  exact List.Pairwise.imp (fun h e=>h (by simp only [Function.comp] at e;omega)) List.nodup_range
 ·intro a ha b hb
  simp only [List.mem_map,List.mem_range,Function.comp] at ha hb
  obtain ⟨i,hi,rfl⟩:=ha
  obtain ⟨j,hj,rfl⟩:=hb
  omega
theorem Zc {B:List Nat} {nm m k i:Nat} (h:get (ji B nm m) k=some i):(B[i]? =some k)\/(nm<=k/\k<nm+m/\i=4+(k - nm)):=by
 have:=get_mem h
 simp only [ji,List.mem_append,List.mem_map,List.mem_range,Prod.mk.injEq] at this
 rcases this with ⟨j,hj,rfl,rfl⟩|⟨j,hj,rfl,rfl⟩
 ·left;simp [hj]
 ·right;omega
section
variable {P:Program} {f:FuncId} {xs ys:List AV} {bs bs' cs':List (List AV)} {gs es es':List Ob} {r r':AV} {h:List (Nat×Ob)} {B G:List Nat} {nm:Nat} {Q:AV->List (Nat×Ob)->Prop}
def isRow:Ob->Bool
 | .row _ _ _=>true
 |_=>false
theorem Ic:∀ (Z:List Nat) (k:Nat),get (kills Z) k=if k ∈ Z then some .dead else none
 |[],k=>by simp [kills,get]
 |z::Z,k=>by
  have ih:=Ic Z k
  simp only [kills,List.map_cons,get] at ih ⊢
  by_cases e:z=k
  ·subst e;simp
  ·rw [if_neg e,ih]
   have:(k ∈ z::Z)=(k ∈ Z):=by simp only [List.mem_cons,eq_iff_iff];exact ⟨fun h=>h.resolve_left fun h=>e h.symm,.inr⟩
   simp only [this]
theorem gu.call (hF:gu P f xs bs gs r bs' es) (ha:au [] (dS B G) [] xs ys)
 (hbl:bs.length=B.length) (hgl:gs.length=G.length) (hB4:B.length<=4) (hG4:G.length<=4) (hnd:(B++G).Nodup)
 (hb:∀ (i b:Nat),B[i]? =some b->∃ cs cs0,bs[i]? =some cs/\get h b=some (.box cs0)/\au [] (dS B G) [] cs cs0)
 (hg:∀ (i b:Nat),G[i]? =some b->∃ o,gs[i]? =some o/\get h b=some o/\isRow o=true)
 (ahn:bs'.length=B.length) (hcl':cs'.length=B.length) (hb':∀ (i:Nat) (c:List AV),cs'[i]? =some c->∃ x,bs'[i]? =some x/\au [] (ji B nm es.length) [] c x)
 (hel:es'.length=es.length) (hm:es.length<=8) (he:∀ (i:Nat) (y:Ob),es'[i]? =some y->∃ x,es[i]? =some x/\bO [] (ji B nm es.length) [] y x)
 (hr':rv [] (ji B nm es.length) [] r' r) (hQ:Q r' (dB nm es'++(gq B cs'++(kills G++h)))):rR P nm f ys h Q:=by
 refine ⟨hF.1,fun C ρ U w vals hr hfr hvl=> ?_⟩
 rw [List.nodup_append] at hnd
 obtain ⟨Pj,aho,ahp⟩:=hnd
 have hBG:∀ b,b ∈ B->b ∈ G->False:=fun b h1 h2=>ahp b h1 b h2 rfl
 have uj:∀ b ∈ B,U b/\∃ cs0,get h b=some (.box cs0):=fun b iy=>by
  obtain ⟨i,hi⟩:=List.mem_iff_getElem?.1 iy
  obtain ⟨cs,cs0,_,h2,_⟩:=hb i b hi
  exact ⟨(hr.hp b _ h2).1,cs0,h2⟩
 have Ie:∀ b ∈ G,U b/\∃ o,get h b=some o/\isRow o=true:=fun b ko=>by
  obtain ⟨i,hi⟩:=List.mem_iff_getElem?.1 ko
  obtain ⟨o,_,h2,h3⟩:=hg i b hi
  exact ⟨(hr.hp b _ h2).1,o,h2,h3⟩
 let C':Ctx:=⟨w,aP C ρ w,(fun g=>∃ b ∈ B,∃ o n,ρ b=Loc.at g o n),(fun i=>(B[i]?).map ρ),0,(fun g hg=>by
  obtain ⟨b,iy,o,n,hl⟩:=hg
  obtain ⟨i,hi⟩:=List.mem_iff_getElem?.1 iy
  exact ⟨i,o,n,by simp [hi,hl]⟩),(fun i l hl=>by
  rcases Nat.lt_or_ge i B.length with h1|h1
  ·omega
  ·simp [List.getElem?_eq_none h1] at hl),(fun g=>∃ b ∈ G,∃ o n,ρ b=Loc.at g o n),(fun g ⟨b,ko,o,n,hl⟩ ⟨b',iy,o',n',hl'⟩=>by
  have:=hr.inj b b' g o n o' n' hl hl'
  subst this
  exact hBG b iy ko)⟩
 let ρc:Nat->Loc:=fun k=>match get (dS B G) k with|some b=>ρ b|none=> .dead
 let Uc:Nat->Prop:=fun k=>∃ b,get (dS B G) k=some b
 have qJ:∀ k b,get (dS B G) k=some b->ρc k=ρ b:=fun k b hk=>by show (match get (dS B G) k with|some b=>ρ b|none=> .dead)=ρ b;rw [hk]
 have ul:∀ k g o n,ρc k= .at g o n->∃ b,get (dS B G) k=some b/\ρ b= .at g o n:=fun k g o n hk=>by
  cases hs:get (dS B G) k with
  |none=>
   have:ρc k= .dead:=by show (match get (dS B G) k with|some b=>ρ b|none=> .dead)=_;rw [hs]
   rw [this] at hk;cases hk
  |some b=>exact ⟨b,rfl,by rw [<-qJ k b hs];exact hk⟩
 have hown0:∀ g,jq ρc g->jq ρ g:=fun g ⟨k,o,n,hk⟩=>by
  obtain ⟨b,_,hb⟩:=ul k g o n hk
  exact ⟨b,o,n,hb⟩
 have hok:∀ g,aP C ρ w g->aP C' ρc w g:=fun g hg=>⟨.inl hg,hg.2.1,fun ho=>hg.2.2 (hown0 g ho)⟩
 have Ck:∀ k b,get (dS B G) k=some b->Uc k/\ρc k=ρ b:=fun k b hk=>⟨⟨b,hk⟩,qJ k b hk⟩
 have Pk:∀ k,Uc k->k<8:=fun k ⟨b,hk⟩=>by
  rcases rV hk with h1|⟨h1,h2⟩
  ·have:=(List.getElem?_eq_some_iff.1 h1).1;omega
  ·have:=(List.getElem?_eq_some_iff.1 h2).1;omega
 have ahq:∀ k,k ∈ G->¬ (nm<=k/\k<nm+8):=fun k hk=>hfr k (Ie k hk).1
 have hr0:HR C' ρc Uc (outs bs gs) w:=by
  refine ⟨fun k o hk=> ?_,fun k hk=> ?_,fun k k' g o n o' n' h1 h2=> ?_,rfl,rfl,rfl,Nat.le_refl _,fun g _ _ _=>rfl,
   fun g hg=>⟨hg.2.1,fun ⟨b,_,o,n,hb⟩=>hg.2.2 ⟨b,o,n,hb⟩,fun ⟨b,_,o,n,hb⟩=>hg.2.2 ⟨b,o,n,hb⟩⟩,fun g ho=> ?_,fun i l hi=> ?_⟩
  ·unfold outs at hk
   rw [get_append,gG,jg] at hk
   simp only [Nat.zero_le,if_true,Nat.sub_zero,List.getElem?_map] at hk
   cases hbk:bs[k]? with
   |some cs=>
    rw [hbk] at hk
    simp only [Option.map_some,Option.some.injEq] at hk
    subst hk
    have hlt:k<B.length:=by rw [<-hbl];exact (List.getElem?_eq_some_iff.1 hbk).1
    have hib:B[k]? =some B[k]:=List.getElem?_eq_getElem hlt
    obtain ⟨cs1,cs0,h1,h2,h3⟩:=hb k _ hib
    rw [hbk] at h1;cases h1
    have hs:=Cj (G:=G) hib hB4
    refine ⟨⟨_,hs⟩,?_⟩
    rw [qJ k _ hs]
    exact (hr.hp _ _ h2).2.rn Ck hok (fun _ _=>rfl) (fun _ _ _ _=>rfl) (by simp only [bO];exact h3)
   |none=>
    rw [hbk] at hk
    simp only [Option.map_none] at hk
    rw [jg] at hk
    split at hk
    ·rename_i h4
     have hlt:k - 4<G.length:=by rw [<-hgl];exact (List.getElem?_eq_some_iff.1 hk).1
     have hib:G[k - 4]? =some G[k - 4]:=List.getElem?_eq_getElem hlt
     obtain ⟨o1,h1,h2,h3⟩:=hg (k - 4) _ hib
     rw [hk] at h1;cases h1
     have hs:=ahm (B:=B) hib hB4
     rw [show 4+(k - 4)=k by omega] at hs
     refine ⟨⟨_,hs⟩,?_⟩
     rw [qJ k _ hs]
     refine (hr.hp _ _ h2).2.rn Ck hok (fun _ _=>rfl) (fun _ _ _ _=>rfl) ?_
     cases o with
     |row e sz xs=>simp only [bO,and_self]
     |_=>simp [isRow] at h3
    ·cases hk
  ·cases hs:get (dS B G) k with
   |none=>show (match get (dS B G) k with|some b=>ρ b|none=> .dead)=_;rw [hs]
   |some b=>
    unfold outs at hk
    rw [get_append,gG,jg] at hk
    simp only [Nat.zero_le,if_true,Nat.sub_zero,List.getElem?_map] at hk
    rcases rV hs with h1|⟨h1,h2⟩
    ·have hlt:k<bs.length:=by rw [hbl];exact (List.getElem?_eq_some_iff.1 h1).1
     rw [List.getElem?_eq_getElem hlt] at hk
     simp at hk
    ·have hlt:k - 4<gs.length:=by rw [hgl];exact (List.getElem?_eq_some_iff.1 h2).1
     have:bs[k]? =none:=List.getElem?_eq_none (by omega)
     rw [this] at hk
     simp only [Option.map_none,jg] at hk
     rw [if_pos h1,List.getElem?_eq_getElem hlt] at hk
     cases hk
  ·obtain ⟨b,hs,hl⟩:=ul k g o n h1
   obtain ⟨b',hs',hl'⟩:=ul k' g o' n' h2
   have e:=hr.inj b b' g o n o' n' hl hl'
   subst e
   rcases rV hs with h3|⟨h3,h4⟩<;>rcases rV hs' with h5|⟨h5,h6⟩
   ·obtain ⟨p1,q1⟩:=List.getElem?_eq_some_iff.1 h3
    obtain ⟨p2,q2⟩:=List.getElem?_eq_some_iff.1 h5
    exact (List.getElem_inj Pj).1 (q1.trans q2.symm)
   ·exact (hBG b (List.mem_of_getElem? h3) (List.mem_of_getElem? h6)).elim
   ·exact (hBG b (List.mem_of_getElem? h5) (List.mem_of_getElem? h4)).elim
   ·obtain ⟨p1,q1⟩:=List.getElem?_eq_some_iff.1 h4
    obtain ⟨p2,q2⟩:=List.getElem?_eq_some_iff.1 h6
    have:=(List.getElem_inj aho).1 (q1.trans q2.symm)
    omega
  ·obtain ⟨k,o,n,hk⟩:=ho
   obtain ⟨b,hs,hl⟩:=ul k g o n hk
   refine ⟨?_,(hr.dJ g ⟨b,o,n,hl⟩).2⟩
   rcases rV hs with h3|⟨h3,h4⟩
   ·exact .inl ⟨b,List.mem_of_getElem? h3,o,n,hl⟩
   ·exact .inr (.inl ⟨b,List.mem_of_getElem? h4,o,n,hl⟩)
  ·have hlt:i<B.length:=by
    rcases Nat.lt_or_ge i B.length with h1|h1
    ·exact h1
    ·simp [C',List.getElem?_eq_none h1] at hi
   have hib:B[i]? =some B[i]:=List.getElem?_eq_getElem hlt
   obtain ⟨cs,cs1,h1,h2,h3⟩:=hb i _ hib
   have hs:=Cj (G:=G) hib hB4
   refine ⟨?_,⟨_,hs⟩,cs,?_⟩
   ·rw [qJ i _ hs]
    simp only [C',hib,Option.map_some,Option.some.injEq] at hi
    exact hi
   ·exact Ab h1
 have xW:VL w (aP C' ρc w) ρc Uc xs vals:=by
  have hl:=iU _ _ ha
  refine ⟨by rw [hl];exact hvl.1,fun i x u hi hu=> ?_⟩
  obtain ⟨y,hy,hxy⟩:=iV _ _ ha i x hi
  exact (hvl.2 i y u hy hu).rn Ck hok (fun _ _=>rfl) x hxy
 refine (hF.2 C' ρc Uc w vals hr0 Pk xW).mono fun e w' hpost=> ?_
 obtain ⟨v,ρ1,U1,rfl,hr1,hv1⟩:=hpost
 let ρ2:Nat->Loc:=fun k=>if nm<=k/\k<nm+es.length then ρ1 (4+(k - nm)) else if k ∈ G then .dead else ρ k
 let U2:Nat->Prop:=fun k=>U k\/(nm<=k/\k<nm+es.length)
 have xY:∀ k,nm<=k/\k<nm+es.length->ρ2 k=ρ1 (4+(k - nm)):=fun k hk=>by show (if _ then _ else _)=_;rw [if_pos hk]
 have qK:∀ k,U k->k ∉ G->ρ2 k=ρ k:=fun k hk hG=>by
  show (if _ then _ else _)=_
  rw [if_neg (fun hh=>hfr k hk ⟨hh.1,by omega⟩),if_neg hG]
 have Zd:∀ k,k ∈ G->ρ2 k= .dead:=fun k hG=>by
  show (if _ then _ else _)=_
  rw [if_neg (fun hh=>ahq k hG ⟨hh.1,by omega⟩),if_pos hG]
 have hsz:w.heap.size<=w'.heap.size:=hr1.size
 have ahr:∀ b ∈ G,∀ g o n,ρ b= .at g o n->(C.ext g\/C.new g)->C.new g:=fun b ko g o n hl hx=>by
  rcases hx with h1|h1
  ·obtain ⟨b',o',n',hb'⟩:=C.xC g h1
   obtain ⟨h3,_,cs,h4⟩:=hr.fix b' _ hb'
   have:=hr.inj b b' g o n o' n' hl h3
   subst this
   obtain ⟨_,o2,h5,h6⟩:=Ie b ko
   rw [h5] at h4;cases h4
   simp [isRow] at h6
  ·exact h1
 have hoff:∀ i g o n,i<es.length->ρ1 (4+i)= .at g o n->((∃ b ∈ G,∃ o n,ρ b= .at g o n)\/w.heap.size<=g)/\g<w'.heap.size:=fun i g o n hi hl=>by
  obtain ⟨h1,h2⟩:=hr1.dJ g ⟨_,o,n,hl⟩
  refine ⟨?_,h2⟩
  rcases h1 with h1|h1
  ·obtain ⟨b,o',n',hb⟩:=C'.xC g h1
   obtain ⟨h3,_,_⟩:=hr1.fix b _ hb
   have:=hr1.inj (4+i) b g o n o' n' hl h3
   have:=C'.BB b _ hb
   omega
  ·exact h1
 have hold:∀ k g o n,ρ k= .at g o n->g<w.heap.size:=fun k g o n hl=>(hr.dJ g ⟨k,o,n,hl⟩).2
 have hheap:∀ g,g<w.heap.size->(∀ b ∈ B,∀ o n,ρ b≠.at g o n)->(∀ b ∈ G,∀ o n,ρ b≠.at g o n)->w'.heap[g]? =w.heap[g]? :=fun g hg h1 h2=>
  hr1.old g hg (fun ⟨b,iy,o,n,hl⟩=>h1 b iy o n hl) (fun ⟨b,ko,o,n,hl⟩=>h2 b ko o n hl)
 have hcase:∀ k g o n,ρ2 k= .at g o n->(∃ i,k=nm+i/\i<es.length/\ρ1 (4+i)= .at g o n)\/(k ∉ G/\ρ k= .at g o n):=fun k g o n hk=>by
  by_cases h1:nm<=k/\k<nm+es.length
  ·rw [xY k h1] at hk
   exact .inl ⟨k - nm,by omega,by omega,hk⟩
  ·have hk':(if k ∈ G then Loc.dead else ρ k)= .at g o n:=by
    have:ρ2 k=(if k ∈ G then Loc.dead else ρ k):=by show (if _ then _ else _)=_;rw [if_neg h1]
    rw [<-this];exact hk
   split at hk'
   ·cases hk'
   ·rename_i h2;exact .inr ⟨h2,hk'⟩
 have hok2:∀ g,aP C ρ w g->aP C ρ2 w' g:=fun g hg=>⟨hg.1,by have:=hg.2.1;omega,fun ⟨k,o,n,hk⟩=>by
  rcases hcase k g o n hk with ⟨i,rfl,hi,hl⟩|⟨_,hl⟩
  ·rcases (hoff i g o n hi hl).1 with ⟨b,_,o',n',hb'⟩|h1
   ·exact hg.2.2 ⟨b,o',n',hb'⟩
   ·have:=hg.2.1;omega
  ·exact hg.2.2 ⟨k,o,n,hl⟩⟩
 have vO:∀ g,aP C ρ w g->w'.heap[g]? =w.heap[g]? :=fun g hg=>hheap g hg.2.1 (fun b _ o n hl=>hg.2.2 ⟨b,o,n,hl⟩) (fun b _ o n hl=>hg.2.2 ⟨b,o,n,hl⟩)
 have pI:Later U ρ ρ2:=fun k hk=>by
  by_cases hG:k ∈ G
  ·exact .inr (Zd k hG)
  ·exact .inl (qK k hk hG)
 have kQ:∀ g,aP C' ρ1 w' g->aP C ρ2 w' g:=fun g hg=>by
  refine ⟨?_,hg.2.1,fun ⟨k,o,n,hk⟩=> ?_⟩
  ·rcases hg.1 with h1|⟨b,ko,o,n,hl⟩|h1
   ·exact h1.1
   ·exact .inr (ahr b ko g o n hl (hr.dJ g ⟨b,o,n,hl⟩).1)
   ·exact .inr (.inr (Nat.le_trans hr.size h1))
  ·rcases hcase k g o n hk with ⟨i,rfl,hi,hl⟩|⟨hG,hl⟩
   ·exact hg.2.2 ⟨_,o,n,hl⟩
   ·rcases hg.1 with h1|⟨b,ko,o',n',hl'⟩|h1
    ·exact h1.2.2 ⟨k,o,n,hl⟩
    ·have:=hr.inj k b g o n o' n' hl hl'
     subst this
     exact hG ko
    ·have:=hold k g o n hl
     have h1':w.heap.size<=g:=h1
     omega
 have hSo:∀ k i,get (ji B nm es.length) k=some i->U2 k/\ρ2 k=ρ1 i:=fun k i hk=>by
  rcases Zc hk with h1|⟨h1,h2,rfl⟩
  ·have hkB:=List.mem_of_getElem? h1
   have hfx:=(hr1.fix i (ρ k) (by show (B[i]?).map ρ=_;rw [h1];rfl)).1
   exact ⟨.inl (uj k hkB).1,by rw [qK k (uj k hkB).1 (fun hG=>hBG k hkB hG),hfx]⟩
  ·exact ⟨.inr ⟨h1,h2⟩,xY k ⟨h1,h2⟩⟩
 refine ⟨v,r',_,ρ2,U2,rfl,⟨fun k o hk=> ?_,fun k hk=> ?_,fun k k' g o n o' n' h1 h2=> ?_,hr1.os.trans hr.os,hr1.tape.trans hr.tape,hr1.output.trans hr.output,Nat.le_trans hr.size hsz,
  fun g hg he hv=> ?_,hr.kL,fun g ho=> ?_,fun b l hb2=> ?_⟩,hv1.rn hSo kQ (fun _ _=>rfl) r' hr',fun x u hx=>hx.mono hok2 vO (fun k hk=> .inl hk) pI,fun b hb2=> ?_,hQ⟩
 ·rw [get_append,jg] at hk
  by_cases hin:nm<=k/\k<nm+es.length
  ·have hi:k - nm<es'.length:=by omega
   rw [if_pos hin.1,List.getElem?_eq_getElem hi] at hk
   cases hk
   obtain ⟨x,hx1,hx2⟩:=he (k - nm) _ (List.getElem?_eq_getElem hi)
   refine ⟨.inr hin,?_⟩
   rw [xY k hin]
   have hgt:get (outs bs' es) (4+(k - nm))=some x:=HV (by omega) hx1
   exact (hr1.hp _ _ hgt).2.rn hSo kQ (fun _ _=>rfl) (fun _ _ _ _=>rfl) hx2
  ·have hno:(if nm<=k then es'[k - nm]? else none)=none:=by
    split
    ·exact List.getElem?_eq_none (by omega)
    ·rfl
   rw [hno] at hk
   simp only [get_append] at hk
   cases hbx:get (gq B cs') k with
   |some o'=>
    rw [hbx] at hk;cases hk
    obtain ⟨i,c2,h1,h2,rfl⟩:=xQ B cs' k _ hbx
    have hkB:=List.mem_of_getElem? h1
    refine ⟨.inl (uj k hkB).1,?_⟩
    obtain ⟨x,hx1,hx2⟩:=hb' i c2 h2
    have hfx:=(hr1.fix i (ρ k) (by show (B[i]?).map ρ=_;rw [h1];rfl)).1
    rw [qK k (uj k hkB).1 (fun hG=>hBG k hkB hG),<-hfx]
    exact (hr1.hp i _ (Ab hx1)).2.rn hSo kQ (fun _ _=>rfl) (fun _ _ _ _=>rfl) (by simp only [bO];exact hx2)
   |none=>
    rw [hbx] at hk
    simp only [Ic] at hk
    by_cases hG:k ∈ G
    ·rw [if_pos hG] at hk
     cases hk
     exact ⟨.inl (Ie k hG).1,Zd k hG⟩
    ·rw [if_neg hG] at hk
     simp only at hk
     obtain ⟨uf,ho⟩:=hr.hp k o hk
     refine ⟨.inl uf,?_⟩
     rw [qK k uf hG]
     refine fM.mono hok2 vO (fun k hk=> .inl hk) pI (fun g o n hl=>hheap g (hold k g o n hl) (fun b iy o' n' hb2=> ?_) (fun b ko o' n' hb2=> ?_)) ho
     ·have:=hr.inj k b g o n o' n' hl hb2
      subst this
      exact HY B cs' k hbx hcl'.symm iy
     ·have:=hr.inj k b g o n o' n' hl hb2
      subst this
      exact hG ko
 ·rw [get_append,jg] at hk
  have hin:¬ (nm<=k/\k<nm+es.length):=fun hh=>by
   rw [if_pos hh.1,List.getElem?_eq_getElem (show k - nm<es'.length by omega)] at hk
   cases hk
  have hno:(if nm<=k then es'[k - nm]? else none)=none:=by
   split
   ·exact List.getElem?_eq_none (by omega)
   ·rfl
  rw [hno] at hk
  simp only [get_append] at hk
  show (if _ then _ else _)=_
  rw [if_neg hin]
  cases hbx:get (gq B cs') k with
  |some o'=>rw [hbx] at hk;cases hk
  |none=>
   rw [hbx] at hk
   simp only [Ic] at hk
   by_cases hG:k ∈ G
   ·rw [if_pos hG]
   ·rw [if_neg hG] at hk ⊢
    exact hr.hd k hk
 ·rcases hcase k g o n h1 with ⟨i,rfl,hi,hl⟩|⟨hG,hl⟩<;>rcases hcase k' g o' n' h2 with ⟨i',rfl,hi',hl'⟩|⟨hG',hl'⟩
  ·have:=hr1.inj _ _ g o n o' n' hl hl'
   omega
  ·rcases (hoff i g o n hi hl).1 with ⟨b,ko,o2,n2,hb2⟩|h3
   ·have:=hr.inj k' b g o' n' o2 n2 hl' hb2
    subst this;exact (hG' ko).elim
   ·have:=hold _ g o' n' hl';omega
  ·rcases (hoff i' g o' n' hi' hl').1 with ⟨b,ko,o2,n2,hb2⟩|h3
   ·have:=hr.inj k b g o n o2 n2 hl hb2
    subst this;exact (hG ko).elim
   ·have:=hold _ g o n hl;omega
  ·exact hr.inj _ _ g o n o' n' hl hl'
 ·have hg':g<w.heap.size:=Nat.lt_of_lt_of_le hg hr.size
  rw [<-hr.old g hg he hv]
  have key:∀ b o n,ρ b≠.at g o n:=fun b o n hl=>by
   rcases (hr.dJ g ⟨b,o,n,hl⟩).1 with h1|h1|h1
   ·exact he h1
   ·exact hv h1
   ·omega
  exact hheap g hg' (fun b _=>key b) (fun b _=>key b)
 ·obtain ⟨k,o,n,hk⟩:=ho
  rcases hcase k g o n hk with ⟨i,rfl,hi,hl⟩|⟨hG,hl⟩
  ·have h1:=hoff i g o n hi hl
   refine ⟨?_,h1.2⟩
   rcases h1.1 with ⟨b,ko,o2,n2,hb2⟩|h3
   ·exact (hr.dJ g ⟨b,o2,n2,hb2⟩).1
   ·exact .inr (.inr (Nat.le_trans hr.size h3))
  ·exact ⟨(hr.dJ g ⟨k,o,n,hl⟩).1,by have:=hold k g o n hl;omega⟩
 ·obtain ⟨h1,h2,cs0,h3⟩:=hr.fix b l hb2
  have hG:b ∉ G:=fun hG=>by
   obtain ⟨_,o,h5,h6⟩:=Ie b hG
   rw [h3] at h5;cases h5
   simp [isRow] at h6
  refine ⟨by rw [qK b h2 hG];exact h1,.inl h2,?_⟩
  have hin:¬ (nm<=b/\b<nm+es.length):=fun hh=>hfr b h2 ⟨hh.1,by omega⟩
  have hno:(if nm<=b then es'[b - nm]? else none)=none:=by
   split
   ·exact List.getElem?_eq_none (by omega)
   ·rfl
  rw [get_append,jg,hno]
  simp only [get_append,Ic]
  cases hbx:get (gq B cs') b with
  |some o'=>
   obtain ⟨i,c2,_,_,rfl⟩:=xQ B cs' b _ hbx
   exact ⟨c2,rfl⟩
  |none=>
   simp only [if_neg hG]
   exact ⟨cs0,h3⟩
 ·rcases hb2 with h1|h1
  ·exact .inl h1
  ·exact .inr ⟨h1.1,by omega⟩
end
end Go.Eng
namespace Go.Eng
open Go
section
variable {P:Program} {f:FuncId} {xs ys:List AV} {bs bs' cs':List (List AV)} {gs es es':List Ob} {r r':AV} {h:List (Nat×Ob)} {nm:Nat}
def gH (h:List (Nat×Ob)) (S:List (Nat×Nat)):List Nat->List (List AV)->Prop
 |[],[]=>True
 |b::B,cs::bs=>(match get h b with
  |some (.box cs0)=>au [] S [] cs cs0
  |_=>False)/\gH h S B bs
 |_,_=>False
def gJ (h:List (Nat×Ob)):List Nat->List Ob->Prop
 |[],[]=>True
 |b::G,o::gs=>(get h b=some o/\isRow o=true)/\gJ h G gs
 |_,_=>False
def iX (S:List (Nat×Nat)):List (List AV)->List (List AV)->Prop
 |[],[]=>True
 |c::cs,x::xs=>au [] S [] c x/\iX S cs xs
 |_,_=>False
def iY (S:List (Nat×Nat)):List Ob->List Ob->Prop
 |[],[]=>True
 |c::cs,x::xs=>bO [] S [] c x/\iY S cs xs
 |_,_=>False
theorem Ze {S:List (Nat×Nat)}:∀ (B:List Nat) (bs:List (List AV)),gH h S B bs->bs.length=B.length/\∀ (i b:Nat),B[i]? =some b->∃ cs cs0,bs[i]? =some cs/\get h b=some (.box cs0)/\au [] S [] cs cs0
 |[],[],_=>⟨rfl,fun i b hi=>by simp at hi⟩
 |b::B,cs::bs,hx=>by
  simp only [gH] at hx
  obtain ⟨h1,h2⟩:=Ze B bs hx.2
  refine ⟨by simp [h1],fun i c hi=> ?_⟩
  cases i with
  |zero=>
   simp at hi;subst hi
   obtain ⟨h3,_⟩:=hx
   split at h3
   ·rename_i cs0 hc;exact ⟨cs,cs0,rfl,hc,h3⟩
   ·exact h3.elim
  |succ i=>simpa using h2 i c (by simpa using hi)
 |[],_::_,hx=>by simp [gH] at hx
 |_::_,[],hx=>by simp [gH] at hx
theorem Zf:∀ (G:List Nat) (gs:List Ob),gJ h G gs->gs.length=G.length/\∀ (i b:Nat),G[i]? =some b->∃ o,gs[i]? =some o/\get h b=some o/\isRow o=true
 |[],[],_=>⟨rfl,fun i b hi=>by simp at hi⟩
 |b::G,o::gs,hx=>by
  simp only [gJ] at hx
  obtain ⟨h1,h2⟩:=Zf G gs hx.2
  refine ⟨by simp [h1],fun i c hi=> ?_⟩
  cases i with
  |zero=>simp at hi;subst hi;exact ⟨o,rfl,hx.1.1,hx.1.2⟩
  |succ i=>simpa using h2 i c (by simpa using hi)
 |[],_::_,hx=>by simp [gJ] at hx
 |_::_,[],hx=>by simp [gJ] at hx
theorem Zg {S:List (Nat×Nat)}:∀ (cs xs:List (List AV)),iX S cs xs->cs.length=xs.length/\∀ (i:Nat) (c:List AV),cs[i]? =some c->∃ x,xs[i]? =some x/\au [] S [] c x
 |[],[],_=>⟨rfl,fun i b hi=>by simp at hi⟩
 |c::cs,x::xs,hx=>by
  simp only [iX] at hx
  obtain ⟨h1,h2⟩:=Zg cs xs hx.2
  refine ⟨by simp [h1],fun i b hi=> ?_⟩
  cases i with
  |zero=>simp at hi;subst hi;exact ⟨x,rfl,hx.1⟩
  |succ i=>simpa using h2 i b (by simpa using hi)
 |[],_::_,hx=>by simp [iX] at hx
 |_::_,[],hx=>by simp [iX] at hx
theorem Zh {S:List (Nat×Nat)}:∀ (cs xs:List Ob),iY S cs xs->cs.length=xs.length/\∀ (i:Nat) (c:Ob),cs[i]? =some c->∃ x,xs[i]? =some x/\bO [] S [] c x
 |[],[],_=>⟨rfl,fun i b hi=>by simp at hi⟩
 |c::cs,x::xs,hx=>by
  simp only [iY] at hx
  obtain ⟨h1,h2⟩:=Zh cs xs hx.2
  refine ⟨by simp [h1],fun i b hi=> ?_⟩
  cases i with
  |zero=>simp at hi;subst hi;exact ⟨x,rfl,hx.1⟩
  |succ i=>simpa using h2 i b (by simpa using hi)
 |[],_::_,hx=>by simp [iY] at hx
 |_::_,[],hx=>by simp [iY] at hx
theorem Zi {h':List (Nat×Ob)} {S:List (Nat×Nat)}:∀ (B:List Nat) (bs:List (List AV)),(∀ b ∈ B,get h' b=get h b)->gH h S B bs->gH h' S B bs
 |[],[],_,_=>by simp [gH]
 |b::B,cs::bs,he,hx=>by
  simp only [gH] at hx ⊢
  rw [he b (by simp)]
  exact ⟨hx.1,Zi B bs (fun c hc=>he c (by simp [hc])) hx.2⟩
 |[],_::_,_,hx=>by simp [gH] at hx
 |_::_,[],_,hx=>by simp [gH] at hx
theorem Zj {h':List (Nat×Ob)}:∀ (G:List Nat) (gs:List Ob),(∀ b ∈ G,get h' b=get h b)->gJ h G gs->gJ h' G gs
 |[],[],_,_=>by simp [gJ]
 |b::G,o::gs,he,hx=>by
  simp only [gJ] at hx ⊢
  rw [he b (by simp)]
  exact ⟨hx.1,Zj G gs (fun c hc=>he c (by simp [hc])) hx.2⟩
 |[],_::_,_,hx=>by simp [gJ] at hx
 |_::_,[],_,hx=>by simp [gJ] at hx
theorem gu.ug (hF:gu P f xs bs gs r bs' es) (B G:List Nat) (r':AV) (cs':List (List AV)) (es':List Ob) (ha:au [] (dS B G) [] xs ys) (hb:gH h (dS B G) B bs) (hg:gJ h G gs)
 (hd:(decide (B.length<=4)&&(decide (G.length<=4)&&(decide ((B++G).Nodup)&&(decide (bs'.length=B.length)&&decide (es.length<=8)))))=true)
 (hb':iX (ji B nm es.length) cs' bs') (he:iY (ji B nm es.length) es' es) (hr:rv [] (ji B nm es.length) [] r' r):
 jH P nm f ys h ⟨r',dB nm es'++(gq B cs'++kills G),B++G⟩:=by
 intro h' hh Q hQ
 simp only [Bool.and_eq_true,decide_eq_true_eq] at hd
 obtain ⟨h1,h2,h3,h4,h5⟩:=hd
 obtain ⟨b1,b2⟩:=Ze B bs (Zi (h':=h') B bs (fun b hb=>hh b (by simp [hb])) hb)
 obtain ⟨g1,g2⟩:=Zf G gs (Zj (h':=h') G gs (fun b hb=>hh b (by simp [hb])) hg)
 obtain ⟨o1,o2⟩:=Zg cs' bs' hb'
 obtain ⟨e1,e2⟩:=Zh es' es he
 refine hF.call ha b1 g1 h1 h2 h3 b2 g2 h4 (o1.trans h4) o2 e1 h5 e2 hr ?_
 simpa only [List.append_assoc] using hQ
theorem xZ {k:List It} {Q:Exit->St->Prop} {n n':Nat} {t:List (Nat×AV)} {d:Option Nat} {l:List aG} (hF:gu P f xs bs gs r bs' es) (B G:List Nat) (r':AV) (cs':List (List AV)) (es':List Ob)
 (ha:au [] (dS B G) [] xs ys) (hb:gH h (dS B G) B bs) (hg:gJ h G gs)
 (hd:(decide (B.length<=4)&&(decide (G.length<=4)&&(decide ((B++G).Nodup)&&(decide (bs'.length=B.length)&&decide (es.length<=8)))))=true)
 (hb':iX (ji B nm es.length) cs' bs') (he:iY (ji B nm es.length) es' es) (hr:rv [] (ji B nm es.length) [] r' r)
 (hk:go P (.ops (nm+8) n' l::k) Q n (bP t d r') ((dB nm es'++(gq B cs'++kills G))++h)):nW P nm f ys d n' l k Q n t h:=
 xS (hF.ug B G r' cs' es' ha hb hg hd hb' he hr) hk
theorem Ig {k:List It} {Q:Exit->St->Prop} {n n':Nat} {t:List (Nat×AV)} {d:Option Nat} {l ops:List aG} {acc:List bQ} (hF:gu P f xs bs gs r bs' es) (B G:List Nat) (r':AV) (cs':List (List AV)) (es':List Ob)
 (ha:au [] (dS B G) [] xs ys) (hb:gH h (dS B G) B bs) (hg:gJ h G gs)
 (hd:(decide (B.length<=4)&&(decide (G.length<=4)&&(decide ((B++G).Nodup)&&(decide (bs'.length=B.length)&&decide (es.length<=8)))))=true)
 (hb':iX (ji B nm es.length) cs' bs') (he:iY (ji B nm es.length) es' es) (hr:rv [] (ji B nm es.length) [] r' r)
 (hk:go P (.cO (nm+8) n' l ops ((B++G,(dB nm es'++(gq B cs'++kills G)).map Prod.fst)::acc)::k) Q n (bP t d r') ((dB nm es'++(gq B cs'++kills G))++h)):nY P nm f ys d n' l ops acc k Q n t h:=
 xU (hF.ug B G r' cs' es' ha hb hg hd hb' he hr) hk
end
end Go.Eng
namespace Go.Eng
open Go
mutual
theorem ahs {h h':List (Nat×Ob)} {Z:List Nat} (he:∀ b ∈ Z,get h' b=get h b):∀ (x y:AV),(∀ b ∈ deep y,b ∈ Z)->rv h [] [] x y->rv h' (stay h' Z) [] x y
 | .own k sz off len,y,_,hx=>by
  unfold rv at hx
  split at hx
  ·simp [get] at hx
  ·simp at hx
  ·exact hx.elim
 | .ptr k j,y,_,hx=>by
  unfold rv at hx
  split at hx
  ·simp [get] at hx
  ·exact hx.elim
 | .rp ..,y,_,hx=>by
  unfold rv at hx
  split at hx
  ·simp [get] at hx
  ·exact hx.elim
 | .mp ..,y,_,hx=>by
  unfold rv at hx
  split at hx
  ·simp [get] at hx
  ·exact hx.elim
 | .v _,y,_,hx=>by unfold rv at hx ⊢;exact hx
 | .sl sz ys,y,hh,hx=>by
  cases y with
  |own b sz' off' len=>
   simp only [deep,List.mem_singleton,forall_eq] at hh
   simp only [rv,he b hh] at hx ⊢
   refine ⟨fun hm=> ?_,hx.2⟩
   obtain ⟨c,hc⟩:=List.mem_map.1 hm
   simp only [stay,List.mem_map,List.mem_filter] at hc
   obtain ⟨⟨k,⟨_,hk2⟩,rfl⟩,rfl⟩:=hc
   simp [hh] at hk2
  |v a=>
   unfold rv at hx ⊢
   split at hx
   ·rename_i e;cases e
   ·rename_i e;cases e;exact hx
   ·rename_i e;cases e
   ·exact hx.elim
  |_=>simp only [rv] at hx ⊢<;>exact hx
 | .dG cs j,y,hh,hx=>by
  cases y with
  |rp b sz i j'=>
   simp only [deep,List.mem_singleton,forall_eq] at hh
   simp only [rv,he b hh] at hx ⊢
   refine ⟨fun hm=> ?_,hx.2⟩
   obtain ⟨c,hc⟩:=List.mem_map.1 hm
   simp only [stay,List.mem_map,List.mem_filter] at hc
   obtain ⟨⟨k,⟨_,hk2⟩,rfl⟩,rfl⟩:=hc
   simp [hh] at hk2
  |_=>simp only [rv] at hx ⊢<;>exact hx
 | .agg ys,y,hh,hx=>by
  cases y<;>unfold rv at hx ⊢<;>try exact hx
  exact Af he ys _ (by simpa only [deep] using hh) hx
 | .aF ys,y,hh,hx=>by
  cases y<;>unfold rv at hx ⊢<;>try exact hx
  exact Af he ys _ (by simpa only [deep] using hh) hx
 | .fn f ys,y,hh,hx=>by
  cases y<;>unfold rv at hx ⊢<;>try exact hx
  exact ⟨hx.1,Af he ys _ (by simpa only [deep] using hh) hx.2⟩
theorem Af {h h':List (Nat×Ob)} {Z:List Nat} (he:∀ b ∈ Z,get h' b=get h b):∀ (xs ys:List AV),(∀ b ∈ dF ys,b ∈ Z)->au h [] [] xs ys->au h' (stay h' Z) [] xs ys
 |[],[],_,_=>by simp only [au]
 |x::xs,y::ys,hh,hx=>by
  simp only [au] at hx ⊢
  simp only [dF,List.mem_append] at hh
  exact ⟨ahs he x y (fun b hb=>hh b (.inl hb)) hx.1,Af he xs ys (fun b hb=>hh b (.inr hb)) hx.2⟩
 |[],_::_,_,hx=>by simp only [au] at hx
 |_::_,[],_,hx=>by simp only [au] at hx
end
section
variable {P:Program} {f:FuncId} {xs ys:List AV} {r:AV} {es:List Ob} {h:List (Nat×Ob)} {nm:Nat}
def pM (h:List (Nat×Ob)):List Nat->Bool
 |[]=>true
 |b::Z=>(match get h b with
  |some (.row _ _ _)=>true
  |_=>false)&&pM h Z
theorem Ih:∀ (Z:List Nat),pM h Z=true->∀ b ∈ Z,∃ e sz xs,get h b=some (.row e sz xs)
 |[],_,b,hb=>by simp at hb
 |z::Z,hz,b,hb=>by
  simp only [pM,Bool.and_eq_true] at hz
  rcases List.mem_cons.1 hb with rfl|hb
  ·obtain ⟨h1,_⟩:=hz
   split at h1
   ·rename_i e sz xs hx;exact ⟨e,sz,xs,hx⟩
   ·cases h1
  ·exact Ih Z hz.2 b hb
theorem Fn.Zk (hF:Fn P f xs [] r [] []) (hp:dx xs=true) (hr:r.pure=true) (ha:au h [] [] xs ys) (hz:pM h (dF ys)=true):jH P nm f ys h ⟨r,kills (dF ys),dF ys⟩:=by
 intro h' hh Q hQ
 refine Zb (dF ys) (fun b hb=> ?_) (Af (h:=h) hh xs ys (fun b hb=>hb) ha) ((hF.Ib hp hr).use hQ)
 obtain ⟨e,sz,xs,hx⟩:=Ih _ hz b hb
 exact ⟨e,sz,xs,by rw [hh b hb];exact hx⟩
theorem jk {k:List It} {Q:Exit->St->Prop} {n n':Nat} {t:List (Nat×AV)} {d:Option Nat} {l:List aG} (hF:Fn P f xs [] r [] []) (ha:au h [] [] xs ys) (hz:pM h (dF ys)=true) (hp:dx xs=true) (hr:r.pure=true)
 (hk:go P (.ops (nm+8) n' l::k) Q n (bP t d r) (kills (dF ys)++h)):nW P nm f ys d n' l k Q n t h:=xS (hF.Zk hp hr ha hz) hk
theorem Cm {k:List It} {Q:Exit->St->Prop} {n n':Nat} {t:List (Nat×AV)} {d:Option Nat} {l ops:List aG} {acc:List bQ} (hF:Fn P f xs [] r [] []) (ha:au h [] [] xs ys) (hz:pM h (dF ys)=true) (hp:dx xs=true) (hr:r.pure=true)
 (hk:go P (.cO (nm+8) n' l ops ((dF ys,(kills (dF ys)).map Prod.fst)::acc)::k) Q n (bP t d r) (kills (dF ys)++h)):nY P nm f ys d n' l ops acc k Q n t h:=xU (hF.Zk hp hr ha hz) hk
theorem Fn.Ii (hF:Fn P f xs [] r [] es) (hp:dx xs=true) (hes:es.all rowOk=true) (hm:es.length<=8) (hx:dX es.length r=true):jH P nm f xs h ⟨sh nm r,dB nm es,[]⟩:=by
 have:=hF.ug (h:=h) nm [] [] (xX xs hp) (by simp only [pK]) (by simp) (by simp) rfl (by simp only [qI]) hes hm hx
 simpa only [gq,List.append_nil] using this
theorem x9 {k:List It} {Q:Exit->St->Prop} {n n':Nat} {t:List (Nat×AV)} {d:Option Nat} {l:List aG} (hF:Fn P f xs [] r [] es) (hp:dx xs=true) (hes:es.all rowOk=true) (hm:es.length<=8) (hx:dX es.length r=true)
 (hk:go P (.ops (nm+8) n' l::k) Q n (bP t d (sh nm r)) (dB nm es++h)):nW P nm f xs d n' l k Q n t h:=xS (hF.Ii hp hes hm hx) hk
theorem Pm {k:List It} {Q:Exit->St->Prop} {n n':Nat} {t:List (Nat×AV)} {d:Option Nat} {l ops:List aG} {acc:List bQ} (hF:Fn P f xs [] r [] es) (hp:dx xs=true) (hes:es.all rowOk=true) (hm:es.length<=8) (hx:dX es.length r=true)
 (hk:go P (.cO (nm+8) n' l ops (([],(dB nm es).map Prod.fst)::acc)::k) Q n (bP t d (sh nm r)) (dB nm es++h)):nY P nm f xs d n' l ops acc k Q n t h:=xU (hF.Ii hp hes hm hx) hk
theorem Ij {k:List It} {Q:Exit->St->Prop} {n n':Nat} {t:List (Nat×AV)} {d:Option Nat} {l:List aG} (hF:Fn P f xs [] r [] es) (ha:au h [] [] xs ys) (hes:es.all rowOk=true) (hna:∀ o ∈ es,lS o) (hm:es.length<=8) (hx:dX es.length r=true) (hr0:na r=true)
 (hk:go P (.ops (nm+8) n' l::k) Q n (bP t d (sh nm r)) (dB nm es++h)):nW P nm f ys d n' l k Q n t h:=xS (hF.Ch nm ha hes hna hm hx hr0) hk
theorem Pn {k:List It} {Q:Exit->St->Prop} {n n':Nat} {t:List (Nat×AV)} {d:Option Nat} {l ops:List aG} {acc:List bQ} (hF:Fn P f xs [] r [] es) (ha:au h [] [] xs ys) (hes:es.all rowOk=true) (hna:∀ o ∈ es,lS o) (hm:es.length<=8) (hx:dX es.length r=true) (hr0:na r=true)
 (hk:go P (.cO (nm+8) n' l ops ((dF ys,(dB nm es).map Prod.fst)::acc)::k) Q n (bP t d (sh nm r)) (dB nm es++h)):nY P nm f ys d n' l ops acc k Q n t h:=xU (hF.Ch nm ha hes hna hm hx hr0) hk
end
attribute [go_sem] dB
end Go.Eng
