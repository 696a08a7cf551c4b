/-
  Part of a proof: lemmas and definitions of this work.
  No condition.
-/
import Derived.Test.YtpfhpakpcjfopaaGreatI00
set_option linter.all false
set_option maxRecDepth 100000
set_option maxHeartbeats 8000000
namespace Go.Eng
open Go
structure fZ (C:Ctx) (ρ:Nat->Loc) (U:Nat->Prop) (h:List (Nat×Ob)) (w:World) (b b':Nat) (l:Loc) (w':World):Prop where
 os:w'.os=w.os
 tape:w'.tape=w.tape
 output:w'.output=w.output
 size:w.heap.size<=w'.heap.size
 bl:∀ g,g<w.heap.size->(∀ o n,ρ b≠.at g o n)->w'.heap[g]? =w.heap[g]?
 hu:U b
 hb':¬ U b'
 nb:∀ cs,get h b≠some (.box cs)
 way:l= .nil\/∃ g o n,l= .at g o n/\((w.heap.size<=g/\g<w'.heap.size)\/∃ o' n',ρ b= .at g o' n')
def cB (ρ:Nat->Loc) (b b':Nat) (l:Loc):Nat->Loc:=up (up ρ b .dead) b' l
section
variable {C:Ctx} {ρ:Nat->Loc} {U:Nat->Prop} {h:List (Nat×Ob)} {w w':World} {b b':Nat} {l:Loc}
theorem fZ.ne (hm:fZ C ρ U h w b b' l w'):b≠b':=fun e=>hm.hb' (e▸hm.hu)
theorem fZ.later (hm:fZ C ρ U h w b b' l w'):Later U ρ (cB ρ b b' l):=by
 intro k hk
 unfold cB up
 have:k≠b':=fun e=>hm.hb' (e▸hk)
 rw [if_neg this]
 by_cases e:k=b
 ·rw [if_pos e];exact .inr rfl
 ·rw [if_neg e];exact .inl rfl
theorem fZ.owned (hm:fZ C ρ U h w b b' l w') {g:Nat} (ho:iI (cB ρ b b' l) g):iI ρ g\/(w.heap.size<=g/\g<w'.heap.size):=by
 obtain ⟨k,o,n,hk⟩:=ho
 unfold cB up at hk
 by_cases e:k=b'
 ·rw [if_pos e] at hk
  rcases hm.way with h|⟨g',o',n',h,h1|⟨o'',n'',h1⟩⟩
  ·rw [h] at hk;cases hk
  ·rw [h] at hk;cases hk;exact .inr h1
  ·rw [h] at hk;cases hk;exact .inl ⟨b,_,_,h1⟩
 ·rw [if_neg e] at hk
  by_cases e2:k=b
  ·rw [if_pos e2] at hk;cases hk
  ·rw [if_neg e2] at hk;exact .inl ⟨k,o,n,hk⟩
theorem fZ.ay (hm:fZ C ρ U h w b b' l w') {g:Nat} (hg:ay C ρ w g):ay C (cB ρ b b' l) w' g:=by
 refine ⟨hg.1,Nat.lt_of_lt_of_le hg.2.1 hm.size,fun ho=> ?_⟩
 rcases hm.owned ho with h|h
 ·exact hg.2.2 h
 ·have:=hg.2.1;omega
theorem fZ.same (hm:fZ C ρ U h w b b' l w') {g:Nat} (hg:Go.Eng.ay C ρ w g):w'.heap[g]? =w.heap[g]? :=
 hm.bl g hg.2.1 fun o n e=>hg.2.2 ⟨b,o,n,e⟩
theorem fZ.vr (hm:fZ C ρ U h w b b' l w') {x:AV} {u:Value} (hx:VR w (Go.Eng.ay C ρ w) ρ U x u):VR w' (Go.Eng.ay C (cB ρ b b' l) w') (cB ρ b b' l) (fV U b') x u:=
 hx.mono (fun _=>hm.ay) (fun _=>hm.same) (fun _ h=> .inl h) hm.later
theorem fZ.vp (hm:fZ C ρ U h w b b' l w') {x:AV} {u:Value} (hx:VP w (Go.Eng.ay C ρ w) x u):VP w' (Go.Eng.ay C (cB ρ b b' l) w') x u:=
 hx.mono (fun _=>hm.ay) (fun _=>hm.same)
theorem fZ.keep (hm:fZ C ρ U h w b b' l w') {l':Loc} {ob:Ob} (hl:∀ g o n,l'= .at g o n->w'.heap[g]? =w.heap[g]?)
  (ho:dV w (Go.Eng.ay C ρ w) ρ U l' ob):dV w' (Go.Eng.ay C (cB ρ b b' l) w') (cB ρ b b' l) (fV U b') l' ob:=by
 cases ob with
 |box cs=>
  obtain ⟨g,o,n,e,cells,h1,h2,h3,h4,h5⟩:=ho
  refine ⟨g,o,n,e,cells,h1,(hl g o n h1).trans h2,h3,h4,fun j c hj=> ?_⟩
  obtain ⟨u,hu,hv⟩:=h5 j c hj
  exact ⟨u,hu,hm.vr hv⟩
 |row e sz xs=>
  rcases ho with ho|⟨g,o,n,cells,h1,h2,h3,h4,h5,h6⟩
  ·exact .inl ho
  ·refine .inr ⟨g,o,n,cells,h1,(hl g o n h1).trans h2,h3,h4,h5,fun k x j c hk hj=> ?_⟩
   obtain ⟨u,hu,h1c,hv⟩:=h6 k x j c hk hj
   exact ⟨u,hu,h1c,hm.vp hv⟩
 |map es=>
  obtain ⟨g,aH,clock,h1,h2,h3,h4⟩:=ho
  exact ⟨g,aH,clock,h1,(hl g 0 0 h1).trans h2,h3,fun i k c m hi he=>⟨(h4 i k c m hi he).1,hm.vr (h4 i k c m hi he).2⟩⟩
 |dead=>exact ho
theorem fZ.hr (hm:fZ C ρ U h w b b' l w') (hr:HR C ρ U h w) {ob:Ob}
  (ho:dV w' (Go.Eng.ay C (cB ρ b b' l) w') (cB ρ b b' l) (fV U b') l ob):HR C (cB ρ b b' l) (fV U b') ((b',ob)::(b,.dead)::h) w' where
 hp k o hk:=by
  by_cases e:b'=k
  ·subst e
   rw [rX] at hk
   cases hk
   refine ⟨.inr rfl,?_⟩
   have:cB ρ b b' l b'=l:=by simp [cB,up]
   rw [this];exact ho
  ·rw [lW _ _ _ _ e] at hk
   by_cases e2:b=k
   ·subst e2
    rw [rX] at hk;cases hk
    refine ⟨.inl hm.hu,?_⟩
    show cB ρ b b' l b= .dead
    simp [cB,up,hm.ne]
   ·rw [lW _ _ _ _ e2] at hk
    have he:cB ρ b b' l k=ρ k:=by unfold cB up;rw [if_neg (fun h=>e h.symm),if_neg (fun h=>e2 h.symm)]
    obtain ⟨h1,h2⟩:=hr.hp k o hk
    refine ⟨.inl h1,?_⟩
    rw [he]
    refine hm.keep (fun g o n hl=> ?_) h2
    have hlt:=(hr.bE g ⟨k,o,n,hl⟩).2
    exact hm.bl g hlt fun o' n' h'=>e2 (hr.inj b k g o' n' o n h' hl)
 hd k hk:=by
  by_cases e:b'=k
  ·subst e;rw [rX] at hk;cases hk
  ·rw [lW _ _ _ _ e] at hk
   by_cases e2:b=k
   ·subst e2;rw [rX] at hk;cases hk
   ·rw [lW _ _ _ _ e2] at hk
    unfold cB up;rw [if_neg (fun h=>e h.symm),if_neg (fun h=>e2 h.symm)];exact hr.hd k hk
 inj k k' g o n o' n' h1 h2:=by
  have key:∀ k o n,cB ρ b b' l k= .at g o n->(k=b'/\((∃ o' n',ρ b= .at g o' n')\/w.heap.size<=g))\/(k≠b'/\k≠b/\ρ k= .at g o n):=by
   intro k o n hk
   unfold cB up at hk
   by_cases e:k=b'
   ·rw [if_pos e] at hk
    refine .inl ⟨e,?_⟩
    rcases hm.way with h|⟨g',o',n',h,h1|⟨o'',n'',h1⟩⟩
    ·rw [h] at hk;cases hk
    ·rw [h] at hk;cases hk;exact .inr h1.1
    ·rw [h] at hk;cases hk;exact .inl ⟨_,_,h1⟩
   ·rw [if_neg e] at hk
    by_cases e2:k=b
    ·rw [if_pos e2] at hk;cases hk
    ·rw [if_neg e2] at hk;exact .inr ⟨e,e2,hk⟩
  rcases key k o n h1 with ⟨e1,a1⟩|⟨e1,f1,a1⟩<;>rcases key k' o' n' h2 with ⟨e2,a2⟩|⟨e2,f2,a2⟩
  ·rw [e1,e2]
  ·rcases a1 with ⟨o'',n'',a1⟩|a1
   ·exact absurd (hr.inj _ _ _ _ _ _ _ a2 a1) f2
   ·have:=(hr.bE g ⟨k',o',n',a2⟩).2;omega
  ·rcases a2 with ⟨o'',n'',a2⟩|a2
   ·exact absurd (hr.inj _ _ _ _ _ _ _ a1 a2) f1
   ·have:=(hr.bE g ⟨k,o,n,a1⟩).2;omega
  ·exact hr.inj _ _ _ _ _ _ _ a1 a2
 os:=hm.os.trans hr.os
 tape:=hm.tape.trans hr.tape
 output:=hm.output.trans hr.output
 size:=Nat.le_trans hr.size hm.size
 old g hg he hv:=by
  rw [<-hr.old g hg he hv]
  refine hm.bl g (Nat.lt_of_lt_of_le hg hr.size) fun o n e=> ?_
  rcases (hr.bE g ⟨b,o,n,e⟩).1 with h|h
  ·exact he h
  ·rcases h with h|h
   ·exact hv h
   ·omega
 kL:=hr.kL
 bE g ho:=by
  rcases hm.owned ho with h|h
  ·exact ⟨(hr.bE g h).1,Nat.lt_of_lt_of_le (hr.bE g h).2 hm.size⟩
  ·exact ⟨.inr (.inr (by have:=hr.size;omega)),h.2⟩
 fix k l' hk:=by
  obtain ⟨h1,h2,cs,h3⟩:=hr.fix k l' hk
  have e:b'≠k:=fun e=>hm.hb' (e▸h2)
  have e2:b≠k:=fun e=>hm.nb cs (e▸h3)
  refine ⟨?_,.inl h2,cs,by rw [lW _ _ _ _ e,lW _ _ _ _ e2];exact h3⟩
  unfold cB up;rw [if_neg (fun h=>e h.symm),if_neg (fun h=>e2 h.symm)];exact h1
theorem Run.Bc (hr:HR C ρ U h w) {ob:Ob} {x:AV} {v:Value} {r:Result Next} (hm:fZ C ρ U h w b b' l w')
  (ho:dV w' (Go.Eng.ay C (cB ρ b b' l) w') (cB ρ b b' l) (fV U b') l ob) (hrun:r= .ok (.value v) w') (hv:VR w' (Go.Eng.ay C (cB ρ b b' l) w') (cB ρ b b' l) (fV U b') x v) (p:Prop):
  Run C ρ U h w b' r ⟨p,x,[(b',ob),(b,.dead)]⟩:=
 ⟨v,w',_,_,.inl hrun,hm.hr hr ho,hv,fun _ _ h=>hm.vr h,fun _ hk=>hk⟩
end
end Go.Eng
namespace Go.Eng
open Go
section
variable {P:Program} {C:Ctx} {ρ:Nat->Loc} {U:Nat->Prop} {h:List (Nat×Ob)} {w:World} {nm:Nat} {t:List (Nat×AV)} {a:Act} {o:Oper} {e:E}
structure Reads (w:World) (ok:Nat->Prop) (sz:Nat) (xs:List (List AV)) (u:Value) (vals:List Value):Prop where
 form:∃ ad cap,u= .slice ad xs.length cap/\(ad=none->xs=[])/\∀ A,ad=some A->∀ j v,vals[j]? =some v->w.cell? (A.add j)=some v
 len:vals.length=xs.length*sz
 el:∀ (k:Nat) (x:List AV),xs[k]? =some x->x.length=sz
 one:∀ q ∈ vals,q.oneCell'=true
 rel:∀ (k:Nat) (x:List AV) (j:Nat) (c:AV),xs[k]? =some x->x[j]? =some c->∃ v,vals[k*sz+j]? =some v/\VP w ok c v
theorem MH (A:Addr) (j:Nat) (hs:A.spot=none):A.add j=⟨A.block,A.off+j,none⟩:=by
 obtain ⟨g,o,sp⟩:=A
 simp only at hs
 subst hs
 exact add_plain g o j
theorem He {k j sz:Nat} (hj:j<sz):(k*sz+j) / sz=k/\(k*sz+j) % sz=j:=by
 have h0:0<sz:=by omega
 constructor
 ·rw [Nat.mul_comm,Nat.mul_add_div h0,Nat.div_eq_of_lt hj,Nat.add_zero]
 ·rw [Nat.mul_comm,Nat.mul_add_mod,Nat.mod_eq_of_lt hj]
theorem Bd (hr:HR C ρ U h w) {sz:Nat} {x:AV} {u:Value} {p:Prop} {xs:List (List AV)} (hsz:0<sz) (hv:VR w (ay C ρ w) ρ U x u)
  (hc:kP h sz (some x)=some (p,xs)) (hp:p):∃ vals,Reads w (ay C ρ w) sz xs u vals:=by
 unfold kP at hc
 split at hc
 ·rename_i e0
  simp only [Option.some.injEq] at e0
  subst e0
  simp only [Option.some.injEq,Prod.mk.injEq] at hc
  obtain ⟨_,rfl⟩:=hc
  have:=hv.bA
  subst this
  exact ⟨[],⟨⟨none,0,rfl,fun _=>rfl,fun A h=>by cases h⟩,by simp,by simp,by simp,by simp⟩⟩
 ·rename_i sz' xs' e0
  simp only [Option.some.injEq] at e0
  subst e0
  split at hc
  ·rename_i hss
   subst hss
   simp only [Option.some.injEq,Prod.mk.injEq] at hc
   obtain ⟨_,rfl⟩:=hc
   have hvp:=hv.rY
   cases hvp with
   |fO=>exact ⟨[],⟨⟨none,0,rfl,fun _=>rfl,fun A h=>by cases h⟩,by simp,by simp,by simp,by simp⟩⟩
   |sl A n cap f hn hcap hok hl hcc hvv=>
    subst hn
    refine ⟨(List.range (xs'.length*sz)).map fun q=>f (q / sz) (q % sz),⟨⟨some A,cap,rfl,by simp,fun A' hA j v hj=> ?_⟩,by simp,hl,fun v hv=> ?_,fun k x j c hk hj=> ?_⟩⟩
    ·cases hA
     have hjl:j<xs'.length*sz:=by simpa using (List.getElem?_eq_some_iff.1 hj).1
     have h1:j / sz<xs'.length:=Nat.div_lt_of_lt_mul (by rw [Nat.mul_comm];exact hjl)
     have h2:j % sz<sz:=Nat.mod_lt _ hsz
     simp only [List.getElem?_map,List.getElem?_range hjl,Option.map_some,Option.some.injEq] at hj
     subst hj
     have hx:=List.getElem?_eq_getElem h1
     have hlen:=hl _ _ hx
     have hy:=List.getElem?_eq_getElem (l:=xs'[j / sz]) (i:=j % sz) (by omega)
     have:=(hcc _ _ _ _ hx hy).1
     rw [MH _ _ (hok (Nat.lt_of_le_of_lt (Nat.zero_le _) h1)).1]
     rw [show j / sz*sz+j % sz=j from by rw [Nat.mul_comm];exact Nat.div_add_mod j sz] at this
     exact this
    ·obtain ⟨j,hj,rfl⟩:=List.mem_map.1 hv
     have hjl:j<xs'.length*sz:=by simpa using hj
     have h1:j / sz<xs'.length:=Nat.div_lt_of_lt_mul (by rw [Nat.mul_comm];exact hjl)
     have h2:j % sz<sz:=Nat.mod_lt _ hsz
     have hx:=List.getElem?_eq_getElem h1
     have hlen:=hl _ _ hx
     have hy:=List.getElem?_eq_getElem (l:=xs'[j / sz]) (i:=j % sz) (by omega)
     exact (hcc _ _ _ _ hx hy).2
    ·have hjs:j<sz:=by rw [<-hl k x hk];exact (List.getElem?_eq_some_iff.1 hj).1
     have hkl:k<xs'.length:=(List.getElem?_eq_some_iff.1 hk).1
     have hlt:k*sz+j<xs'.length*sz:=by
      have:(k+1)*sz<=xs'.length*sz:=Nat.mul_le_mul_right _ hkl
      rw [Nat.add_mul,Nat.one_mul] at this
      omega
     refine ⟨f k j,?_,hvv k x j c hk hj⟩
     simp only [List.getElem?_map,List.getElem?_range hlt,Option.map_some,(He (k:=k) hjs).1,(He (k:=k) hjs).2]
  ·cases hc
 ·rename_i b sz' off len e0
  simp only [Option.some.injEq] at e0
  subst e0
  obtain ⟨hu,⟨ad,len',cap',hsl⟩,hown⟩:=hv.oL
  split at hc
  ·rename_i ety eB ys hb
   split at hc
   ·rename_i hss
    obtain ⟨h1,h2⟩:=hss
    subst h1;subst h2
    simp only [Option.some.injEq,Prod.mk.injEq] at hc
    obtain ⟨hp',rfl⟩:=hc
    have hfit:off+len<=ys.length:=by rw [hp'];exact hp
    have hlen:((ys.drop off).take len).length=len:=by simp;omega
    by_cases h0:len=0
    ·subst h0
     have hform:∃ ad cap,u= .slice ad 0 cap:=by
      cases hl:ρ b with
      |dead=>rcases (hr.hp b _ hb).2 with ⟨e',_⟩|⟨_,_,_,_,e',_⟩<;>rw [hl] at e'<;>cases e'
      |nil=>rw [hl] at hown;exact ⟨_,_,hown.2⟩
      |«at» g o n'=>
       rw [hl] at hown
       rcases hown with ⟨_,_,hv|⟨ad,hv⟩⟩|⟨cap,_,_,hv⟩<;>exact ⟨_,_,hv⟩
     obtain ⟨ad,cap,rfl⟩:=hform
     exact ⟨[],⟨⟨ad,cap,by simp,by simp,by simp⟩,by simp,by simp,by simp,by simp⟩⟩
    ·obtain ⟨g,o,n,cells,hl,hg,hcs,hroom,hrl,hcell⟩:=yI hr hb (by omega)
     rw [hl] at hown
     rcases hown with ⟨hz,_⟩|⟨cap,hlc,hcap,rfl⟩
     ·exact absurd hz h0
     ·have hmul:(off+len)*sz<=ys.length*sz:=Nat.mul_le_mul_right _ hfit
      rw [Nat.add_mul] at hmul
      refine ⟨(cells.extract (o+off*sz) (o+off*sz+len*sz)).toList,⟨⟨some ⟨g,o+off*sz,none⟩,cap,by rw [hlen],by simp,fun A hA j v hj=> ?_⟩,?_,fun k x hk=> ?_,fun v hv=> ?_,fun k x j c hk hj=> ?_⟩⟩
      ·cases hA
       rw [add_plain,lC hg]
       rw [Array.getElem?_toList,Array.getElem?_extract] at hj
       split at hj
       ·exact hj
       ·cases hj
      ·simp only [Array.length_toList,Array.size_extract,hlen];omega
      ·rw [List.getElem?_take] at hk
       split at hk
       ·rw [List.getElem?_drop] at hk;exact hrl _ x hk
       ·cases hk
      ·obtain ⟨i,hi,rfl⟩:=List.mem_iff_getElem.1 hv
       have hi':i<len*sz:=by simp only [Array.length_toList,Array.size_extract] at hi;omega
       have h1:i / sz<len:=Nat.div_lt_of_lt_mul (by rw [Nat.mul_comm];exact hi')
       have h2:i % sz<sz:=Nat.mod_lt _ hsz
       have hx:=List.getElem?_eq_getElem (l:=ys) (i:=off+i / sz) (by omega)
       have hlen':=hrl _ _ hx
       have hy:=List.getElem?_eq_getElem (l:=ys[off+i / sz]) (i:=i % sz) (by omega)
       obtain ⟨u,hu1,hu2,_⟩:=hcell _ _ _ _ hx hy
       have he:(cells.extract (o+off*sz) (o+off*sz+len*sz)).toList[i]? =some u:=by
        rw [Array.getElem?_toList,Array.getElem?_extract,if_pos (by omega)]
        rw [show o+off*sz+i=o+((off+i / sz)*sz+i % sz) from by
         have:=Nat.div_add_mod i sz
         rw [Nat.mul_comm] at this
         rw [Nat.add_mul];omega]
        exact hu1
       rw [List.getElem?_eq_getElem hi] at he
       cases he
       exact hu2
      ·rw [List.getElem?_take] at hk
       split at hk
       ·rename_i hkl
        rw [List.getElem?_drop] at hk
        obtain ⟨v,hv1,_,hv2⟩:=hcell _ x j c hk hj
        have hjs:j<sz:=by rw [<-hrl _ x hk];exact (List.getElem?_eq_some_iff.1 hj).1
        have hlt:k*sz+j<len*sz:=by
         have:(k+1)*sz<=len*sz:=Nat.mul_le_mul_right _ hkl
         rw [Nat.add_mul,Nat.one_mul] at this
         omega
        refine ⟨v,?_,hv2⟩
        rw [Array.getElem?_toList,Array.getElem?_extract,if_pos (by omega)]
        rw [show o+off*sz+(k*sz+j)=o+((off+k)*sz+j) from by rw [Nat.add_mul];omega]
        exact hv1
       ·cases hk
   ·cases hc
  ·cases hc
 ·cases hc
end
end Go.Eng
namespace Go.Eng
open Go
section
variable {P:Program} {C:Ctx} {ρ:Nat->Loc} {U:Nat->Prop} {h:List (Nat×Ob)} {w:World} {nm:Nat} {t:List (Nat×AV)} {a:Act} {o:Oper} {e:E}
theorem Reads.append {ok:Nat->Prop} {sz:Nat} {xs ys:List (List AV)} {u v:Value} {us vs:List Value} (h1:Reads w ok sz xs u us) (h2:Reads w ok sz ys v vs):
  (us++vs).length=(xs++ys).length*sz/\(∀ (k:Nat) (x:List AV),(xs++ys)[k]? =some x->x.length=sz)/\
  ∀ (k:Nat) (x:List AV) (j:Nat) (c:AV),(xs++ys)[k]? =some x->x[j]? =some c->∃ q,(us++vs)[k*sz+j]? =some q/\VP w ok c q:=by
 refine ⟨by simp [h1.len,h2.len,Nat.add_mul],fun k x hk=> ?_,fun k x j c hk hj=> ?_⟩
 ·rw [List.getElem?_append] at hk
  split at hk
  ·exact h1.el _ x hk
  ·exact h2.el _ x hk
 ·rw [List.getElem?_append] at hk
  split at hk
  ·rename_i hlt
   obtain ⟨q,hq,hv⟩:=h1.rel k x j c hk hj
   refine ⟨q,?_,hv⟩
   rw [List.getElem?_append_left (List.getElem?_eq_some_iff.1 hq).1]
   exact hq
  ·rename_i hge
   obtain ⟨q,hq,hv⟩:=h2.rel _ x j c hk hj
   refine ⟨q,?_,hv⟩
   have:us.length<=k*sz+j:=by
    rw [h1.len]
    have:=Nat.mul_le_mul_right sz (Nat.not_lt.1 hge)
    omega
   rw [List.getElem?_append_right this,h1.len]
   rw [Nat.sub_mul] at hq
   have h3:=Nat.mul_le_mul_right sz (Nat.not_lt.1 hge)
   rw [show k*sz+j - xs.length*sz=k*sz - xs.length*sz+j from by omega]
   exact hq
structure El (P:Program) (ty el sz aP:Nat) (zs:List Value):Prop where
 und:P.underlying ty=some (.slice el)
 z:zerosOf P el=some zs
 s:sizeP P el=some sz
 b:bytesP P el=some aP
 zl:zs.length=sz
 pos:0<sz
theorem El.info {ty el sz aP:Nat} {zs:List Value} (h:El P ty el sz aP zs):∃ i z,P.info? el=some i/\i.zero=some z/\i.size=sz/\i.bytes=aP/\z.cells.size=sz/\z.cells.toList=zs:=by
 obtain ⟨_,hz,hs,hb,hl,_⟩:=h
 unfold zerosOf at hz
 unfold sizeP at hs
 unfold bytesP at hb
 split at hz
 ·rename_i i hi
  split at hz
  ·rename_i z hiz
   rw [hi] at hs hb
   simp only [Option.some.injEq] at hs hb hz
   refine ⟨i,z,hi,hiz,hs,hb,?_,hz⟩
   rw [<-Array.length_toList,hz];exact hl
  ·cases hz
 ·cases hz
theorem uF (z:Array Value) (n:Nat):(Builtin.zeroCells z n).toList.length=n*z.size:=by rw [Array.length_toList,size_zeroCells]
theorem yJ {w':World} {ok:Nat->Prop} {ρ':Nat->Loc} {U':Nat->Prop} {el sz g m cap:Nat} {xs:List (List AV)} {vals rest:List Value} (hg:w'.heap[g]? =some (.cells (vals++rest).toArray el (0,0)))
  (hlen:vals.length=xs.length*sz) (hel:∀ (k:Nat) (x:List AV),xs[k]? =some x->x.length=sz) (hone:∀ q ∈ vals,q.oneCell'=true)
  (hrel:∀ (k:Nat) (x:List AV) (j:Nat) (c:AV),xs[k]? =some x->x[j]? =some c->∃ q,vals[k*sz+j]? =some q/\VP w' ok c q)
  (hcap:(vals++rest).length=cap*sz) (hm:m=xs.length) (hmc:m<=cap):
  dV w' ok ρ' U' (.at g 0 (cap*sz)) (.row el sz xs)/\OwnAt (.at g 0 (cap*sz)) sz 0 m (.slice (some ⟨g,0,none⟩) m cap):=by
 subst hm
 refine ⟨.inr ⟨g,0,cap*sz,_,rfl,hg,by simp at hcap;simp;omega,Nat.mul_le_mul_right _ hmc,hel,fun k x j c hk hj=> ?_⟩,⟨_,_,_,rfl⟩,.inr ⟨cap,hmc,by simp,by simp⟩⟩
 obtain ⟨q,hq,hv⟩:=hrel k x j c hk hj
 refine ⟨q,?_,hone q (List.mem_iff_getElem?.2 ⟨_,hq⟩),hv⟩
 simp only [Nat.zero_add,List.getElem?_toArray]
 rw [List.getElem?_append_left (List.getElem?_eq_some_iff.1 hq).1]
 exact hq
set_option maxHeartbeats 4000000 in
theorem aeP (hr:HR C ρ U h w) (ht:Tm C ρ U w t a) (hn:¬ U nm) {ty el sz aP:Nat} {zs:List Value} {s x:Operand} {c:Call} (hE:El P ty el sz aP zs)
  (hc:c.callee= .builtin .append) (h2:c.argTypes= #[ty,ty]) (h3:c.args= #[s,x]) (ho:o.op= .call c) (he:av nm t h (.app el sz aP zs s x)=some e) (hp:e.pre):
  Run C ρ U h w nm ((execOp a.eval o).run P w) e:=by
 obtain ⟨i,z,hi,hiz,his,hib,hzc,hzl⟩:=hE.info
 have hsz:=hE.pos
 have dD:∀ v w',(Builtin.append_ #[ty,ty] o.type #[a.eval s,a.eval x]).run P w= .ok v w'->(execOp a.eval o).run P w= .ok (.value v) w':=by
  intro v w' hv
  simp only [execOp,ho,resolve,hc,h2,h3,invoke,builtin,Sem.run_bind,Sem.run_pure,Result.andThen_ok,List.map_toArray,List.map_cons,List.map_nil,hv]
 simp only [av] at he
 have news:∀ p ys,kP h sz (ev t x)=some (p,ys)->p->∃ vals,Reads w (ay C ρ w) sz ys (a.eval x) vals:=by
  intro p ys hcn hp
  cases hx:ev t x with
  |none=>rw [hx] at hcn;simp [kP] at hcn
  |some y=>rw [hx] at hcn;exact Bd hr hsz (aL ht hx) hcn hp
 split at he
 ·
  rename_i p ys hs hcn
  simp only [Option.some.injEq] at he;subst he
  obtain ⟨hp1,hby,hml⟩:=hp
  obtain ⟨vals,hR⟩:=news p ys hcn hp1
  have hs':=(aL ht hs).bA
  obtain ⟨ad,cap,hx,hnil,hcell⟩:=hR.form
  by_cases h0:ys.length=0
  ·have hys:ys=[]:=List.eq_nil_of_length_eq_zero h0
   subst hys
   have hrun:(Builtin.append_ #[ty,ty] o.type #[a.eval s,a.eval x]).run P w= .ok (.slice none 0 0) w:=by
    rw [hs',hx]
    cases ad<;>simp [Builtin.append_,run_underlying hE.und,sizeOf,typeInfo,hi,Builtin.lenOf,Builtin.firstCells,loadCells,loadCellsFrom]
   have hm:Moved C ρ U h w nm .nil w:=⟨rfl,rfl,rfl,Nat.le_refl _,fun _ _ _=>rfl,.inr (.inr ⟨hn,.inl rfl⟩)⟩
   refine Run.moved (ob:= .row el sz []) hr hm (fun ⟨cs,hcs⟩=>absurd (hr.hp _ _ hcs).1 hn) (Or.inl ⟨rfl,rfl⟩) (.inl (dD _ _ hrun)) (.own (.inr rfl) ⟨⟨_,_,_,rfl⟩,?_⟩) (.inr rfl) _
   simp [up]
  ·have had:∃ A,ad=some A:=by
    cases ad with
    |none=>exact absurd (by rw [hnil rfl];rfl) h0
    |some A=>exact ⟨A,rfl⟩
   obtain ⟨A,rfl⟩:=had
   have hrun:=run_append_nil (P:=P) w ty o.type el i z hE.und hi hiz A ys.length cap vals (by rw [hR.len,his]) (hcell A rfl) (by omega) (by unfold maxLen at hml;omega) (by rw [hib];omega)
   have hcapge:=grownCap_ge w ys.length 0 el
   have hm:Moved C ρ U h w nm (.at w.heap.size 0 (grownCap w ys.length 0 el*sz)) (w.drew.alloc (.cells (vals.toArray++Builtin.zeroCells z.cells (grownCap w ys.length 0 el - ys.length)) el)):=
    ⟨rfl,rfl,rfl,by simp,fun g hg _=>Go.RowKit.Below.heap_alloc w.drew _ g hg,.inr (.inr ⟨hn,.inr ⟨w.heap.size,0,_,rfl,Nat.le_refl _,by simp⟩⟩)⟩
   have hnew:=yJ (w':=w.drew.alloc (.cells (vals.toArray++Builtin.zeroCells z.cells (grownCap w ys.length 0 el - ys.length)) el)) (ok:=ay C (up ρ nm (.at w.heap.size 0 (grownCap w ys.length 0 el*sz))) (w.drew.alloc (.cells (vals.toArray++Builtin.zeroCells z.cells (grownCap w ys.length 0 el - ys.length)) el)))
    (ρ':=up ρ nm (.at w.heap.size 0 (grownCap w ys.length 0 el*sz))) (U':=fV U nm) (el:=el) (sz:=sz) (g:=w.heap.size) (m:=ys.length) (cap:=grownCap w ys.length 0 el) (xs:=ys) (vals:=vals) (rest:=(Builtin.zeroCells z.cells (grownCap w ys.length 0 el - ys.length)).toList)
    (by rw [show (vals++(Builtin.zeroCells z.cells (grownCap w ys.length 0 el - ys.length)).toList).toArray=vals.toArray++Builtin.zeroCells z.cells (grownCap w ys.length 0 el - ys.length) from by apply Array.ext';simp];exact heap_alloc_new w.drew _)
    hR.len hR.el hR.one (fun k x j c hk hj=>(hR.rel k x j c hk hj).imp fun q hq=>⟨hq.1,hm.vp hq.2⟩)
    (by simp only [List.length_append,hR.len,Array.length_toList,size_zeroCells,hzc,<-Nat.add_mul];congr 1;omega) rfl hcapge
   refine .moved hr hm (fun ⟨cs,hcs⟩=>absurd (hr.hp _ _ hcs).1 hn) hnew.1 (.inl (dD _ _ (by rw [hs',hx];exact hrun))) (.own (.inr rfl) ?_) (.inr rfl) _
   simp only [up,if_true]
   exact hnew.2
 ·
  rename_i sz' xs p ys hs hcn
  split at he
  ·rename_i h1
   subst h1
   split at he
   case isFalse hpos=>
    simp only [Option.some.injEq] at he;subst he
    obtain ⟨vals,hR⟩:=news p ys hcn hp
    obtain ⟨ad,cap,hx,hnil,hcell⟩:=hR.form
    obtain ⟨hsl,Hf⟩:=(aL ht hs).Ml
    have hy0:ys.length=0:=by omega
    have hys:ys=[]:=List.eq_nil_of_length_eq_zero hy0
    subst hys
    have hrun:(Builtin.append_ #[ty,ty] o.type #[a.eval s,a.eval x]).run P w= .ok (a.eval s) w:=by
     rcases Hf with hv|⟨A,n,hv⟩
     ·rw [hv,hx]
      cases ad<;>simp [Builtin.append_,run_underlying hE.und,sizeOf,typeInfo,hi,Builtin.lenOf,Builtin.firstCells,loadCells,loadCellsFrom]
     ·rw [hv,hx]
      cases ad<;>simp [Builtin.append_,run_underlying hE.und,sizeOf,typeInfo,hi,Builtin.lenOf,Builtin.firstCells,loadCells,loadCellsFrom,storeCells]
    rw [dD _ _ hrun]
    exact .same hr (.p hsl) _
   rename_i hpos
   simp only [Option.some.injEq] at he;subst he
   obtain ⟨hp1,hby,hml⟩:=hp
   obtain ⟨vals,hR⟩:=news p ys hcn hp1
   obtain ⟨ad,cap,hx,hnil,hcell⟩:=hR.form
   obtain ⟨hsl,Hf⟩:=(aL ht hs).Ml
   obtain ⟨olds,hO⟩:=Bd (p:=True) (xs:=xs) (x:= .sl sz xs) hr hsz (VR.p hsl) (by simp [kP]) trivial
   have had:∃ B,ad=some B:=by
    cases ad with
    |none=>exact absurd (by rw [hnil rfl];rfl) (Nat.ne_of_gt hpos)
    |some B=>exact ⟨B,rfl⟩
   obtain ⟨B,rfl⟩:=had
   rcases Hf with hsn|⟨A,n,hsA⟩
   ·have hx0:xs=[]:=by
     have h5:=hsl
     rw [hsn] at h5
     cases h5
     rfl
    subst hx0
    simp only [List.length_nil,Nat.zero_add,List.nil_append] at hby hml ⊢
    have h0:ys.length≠0:=Nat.ne_of_gt hpos
    have hrun:=run_append_nil (P:=P) w ty o.type el i z hE.und hi hiz B ys.length cap vals (by rw [hR.len,his]) (hcell B rfl) (by omega) (by unfold maxLen at hml;omega) (by rw [hib];omega)
    have hcapge:=grownCap_ge w ys.length 0 el
    have hm:Moved C ρ U h w nm (.at w.heap.size 0 (grownCap w ys.length 0 el*sz)) (w.drew.alloc (.cells (vals.toArray++Builtin.zeroCells z.cells (grownCap w ys.length 0 el - ys.length)) el)):=
     ⟨rfl,rfl,rfl,by simp,fun g hg _=>Go.RowKit.Below.heap_alloc w.drew _ g hg,.inr (.inr ⟨hn,.inr ⟨w.heap.size,0,_,rfl,Nat.le_refl _,by simp⟩⟩)⟩
    have hnew:=yJ (w':=w.drew.alloc (.cells (vals.toArray++Builtin.zeroCells z.cells (grownCap w ys.length 0 el - ys.length)) el)) (ok:=ay C (up ρ nm (.at w.heap.size 0 (grownCap w ys.length 0 el*sz))) (w.drew.alloc (.cells (vals.toArray++Builtin.zeroCells z.cells (grownCap w ys.length 0 el - ys.length)) el)))
     (ρ':=up ρ nm (.at w.heap.size 0 (grownCap w ys.length 0 el*sz))) (U':=fV U nm) (el:=el) (sz:=sz) (g:=w.heap.size) (m:=ys.length) (cap:=grownCap w ys.length 0 el) (xs:=ys) (vals:=vals) (rest:=(Builtin.zeroCells z.cells (grownCap w ys.length 0 el - ys.length)).toList)
     (by rw [show (vals++(Builtin.zeroCells z.cells (grownCap w ys.length 0 el - ys.length)).toList).toArray=vals.toArray++Builtin.zeroCells z.cells (grownCap w ys.length 0 el - ys.length) from by apply Array.ext';simp];exact heap_alloc_new w.drew _)
     hR.len hR.el hR.one (fun k x j c hk hj=>(hR.rel k x j c hk hj).imp fun q hq=>⟨hq.1,hm.vp hq.2⟩)
     (by simp only [List.length_append,hR.len,Array.length_toList,size_zeroCells,hzc,<-Nat.add_mul];congr 1;omega) rfl hcapge
    refine .moved hr hm (fun ⟨cs,hcs⟩=>absurd (hr.hp _ _ hcs).1 hn) hnew.1 (.inl (dD _ _ (by rw [hsn,hx];exact hrun))) (.own (.inr rfl) ?_) (.inr rfl) _
    simp only [up,if_true]
    exact hnew.2
   ·obtain ⟨Be,caps,hxs,aeQ,hcells⟩:=hO.form
    have hsz2:Be=some A/\xs.length=n/\caps=n:=by
     rw [hsA] at hxs
     simp only [Value.slice.injEq] at hxs
     exact ⟨hxs.1.symm,hxs.2.1.symm,hxs.2.2.symm⟩
    obtain ⟨hA1,rfl,_⟩:=hsz2
    have hA:=hO.append hR
    have htot:(xs++ys).length=xs.length+ys.length:=List.length_append
    have hlt:xs.length<xs.length+ys.length:=by omega
    have hrun:=run_append_grow (P:=P) w ty o.type el i z hE.und hi hiz A xs.length xs.length olds (by rw [hO.len,his]) (hcells A hA1) B ys.length cap vals (by rw [hR.len,his]) (hcell B rfl) hlt
     (by unfold maxLen at hml;omega) (growslice_fits hlt (by rw [hib];exact hby))
    have hcapge:=grownCap_ge w (xs.length+ys.length) xs.length el
    have hm:Moved C ρ U h w nm (.at w.heap.size 0 (grownCap w (xs.length+ys.length) xs.length el*sz)) (w.drew.alloc (.cells (olds.toArray++vals.toArray++Builtin.zeroCells z.cells (grownCap w (xs.length+ys.length) xs.length el - (xs.length+ys.length))) el)):=
     ⟨rfl,rfl,rfl,by simp,fun g hg _=>Go.RowKit.Below.heap_alloc w.drew _ g hg,.inr (.inr ⟨hn,.inr ⟨w.heap.size,0,_,rfl,Nat.le_refl _,by simp⟩⟩)⟩
    have hnew:=yJ (w':=w.drew.alloc (.cells (olds.toArray++vals.toArray++Builtin.zeroCells z.cells (grownCap w (xs.length+ys.length) xs.length el - (xs.length+ys.length))) el))
     (ok:=ay C (up ρ nm (.at w.heap.size 0 (grownCap w (xs.length+ys.length) xs.length el*sz))) (w.drew.alloc (.cells (olds.toArray++vals.toArray++Builtin.zeroCells z.cells (grownCap w (xs.length+ys.length) xs.length el - (xs.length+ys.length))) el)))
     (ρ':=up ρ nm (.at w.heap.size 0 (grownCap w (xs.length+ys.length) xs.length el*sz))) (U':=fV U nm) (el:=el) (sz:=sz) (g:=w.heap.size) (m:=xs.length+ys.length) (cap:=grownCap w (xs.length+ys.length) xs.length el) (xs:=xs++ys) (vals:=olds++vals)
     (rest:=(Builtin.zeroCells z.cells (grownCap w (xs.length+ys.length) xs.length el - (xs.length+ys.length))).toList)
     (by rw [show (olds++vals++(Builtin.zeroCells z.cells (grownCap w (xs.length+ys.length) xs.length el - (xs.length+ys.length))).toList).toArray=olds.toArray++vals.toArray++Builtin.zeroCells z.cells (grownCap w (xs.length+ys.length) xs.length el - (xs.length+ys.length)) from by apply Array.ext';simp];exact heap_alloc_new w.drew _)
     hA.1 hA.2.1 (fun q hq=>(List.mem_append.1 hq).elim (hO.one q) (hR.one q)) (fun k x j c hk hj=>(hA.2.2 k x j c hk hj).imp fun q hq=>⟨hq.1,hm.vp hq.2⟩)
     (by rw [List.length_append,hA.1,htot,uF,hzc,<-Nat.add_mul];congr 1;omega) htot.symm hcapge
    refine .moved hr hm (fun ⟨cs,hcs⟩=>absurd (hr.hp _ _ hcs).1 hn) hnew.1 (.inl (dD _ _ (by rw [hsA,hx];exact hrun))) (.own (.inr rfl) ?_) (.inr rfl) _
    simp only [up,if_true]
    exact hnew.2
  ·cases he
 ·
  rename_i b sz' off len p ys hs hcn
  split at he
  ·rename_i e' eB xs hb
   split at he
   ·rename_i hss
    obtain ⟨h1,h2',h3'⟩:=hss
    subst h1;subst h2';subst h3'
    split at he
    ·
     rename_i hin
     simp only [Option.some.injEq] at he;subst he
     obtain ⟨vals,hR⟩:=news p ys hcn hp
     obtain ⟨ad,cap,hx,hnil,hcell⟩:=hR.form
     have hvs:=aL ht hs
     obtain ⟨hub,_,hown⟩:=hvs.oL
     by_cases hy0:ys.length=0
     ·have hys:ys=[]:=List.eq_nil_of_length_eq_zero hy0
      subst hys
      have hmv:Moved C ρ U h w b (ρ b) w:=⟨rfl,rfl,rfl,Nat.le_refl _,fun _ _ _=>rfl,.inl ⟨hub,rfl⟩⟩
      have hform:a.eval s= .slice none 0 0\/∃ A l1 c1,a.eval s= .slice (some A) l1 c1/\l1<=c1:=by
       have hrow:=(hr.hp b _ hb).2
       cases hl:ρ b with
       |dead=>rcases hrow with ⟨e',_⟩|⟨_,_,_,_,e',_⟩<;>rw [hl] at e'<;>cases e'
       |nil=>rw [hl] at hown;exact .inl hown.2
       |«at» g og n=>
        rw [hl] at hown
        rcases hown with ⟨_,_,hv|⟨A,hv⟩⟩|⟨wG,hlc,_,hv⟩
        ·exact .inl hv
        ·exact .inr ⟨A,0,0,hv,Nat.le_refl _⟩
        ·exact .inr ⟨_,_,_,hv,hlc⟩
      have hrun:(Builtin.append_ #[ty,ty] o.type #[a.eval s,a.eval x]).run P w= .ok (a.eval s) w:=by
       rcases hform with hv|⟨A,l1,c1,hv,hle⟩
       ·rw [hv,hx]
        cases ad<;>simp [Builtin.append_,run_underlying hE.und,sizeOf,typeInfo,hi,Builtin.lenOf,Builtin.firstCells,loadCells,loadCellsFrom]
       ·rw [hv,hx]
        cases ad<;>simp [Builtin.append_,run_underlying hE.und,sizeOf,typeInfo,hi,Builtin.lenOf,Builtin.firstCells,loadCells,loadCellsFrom,storeCells,hle]
      simp only [List.length_nil,Nat.add_zero,List.nil_append,List.take_append_drop]
      refine Run.moved (b:=b) (ob:= .row el sz xs) hr hmv (fun ⟨cs,hcs⟩=>by rw [hb] at hcs;cases hcs) ?_ (.inl (dD _ _ hrun)) (hmv.vr hvs) (.inl hub) _
      exact dV.keep hmv (fun g o n hl=>⟨(hr.bE g ⟨b,o,n,hl⟩).2,rfl⟩) (hr.hp b _ hb).2
     have hpos:0<ys.length:=by omega
     obtain ⟨B,rfl⟩:∃ B,ad=some B:=by
      cases ad with
      |none=>exact absurd (by rw [hnil rfl];rfl) (Nat.ne_of_gt hpos)
      |some B=>exact ⟨B,rfl⟩
     obtain ⟨g,dW,n,cells,hl,hg,hcs,hxn,hrl,wH⟩:=yI hr hb (by omega)
     rw [hl] at hown
     have hmul:(off+len+ys.length)*sz<=xs.length*sz:=Nat.mul_le_mul_right _ hin
     rcases hown with ⟨h0,hno,_⟩|⟨cap0,hlc,hroom,hsv⟩
     ·exfalso
      have h5:(off+len+ys.length)*sz=off*sz+(len+ys.length)*sz:=by rw [<-Nat.add_mul];congr 1;omega
      have h6:0<(len+ys.length)*sz:=Nat.mul_pos (by omega) hsz
      omega
     ·have hfits:len+ys.length<=cap0:=by
       have h5:(off+(len+ys.length))*sz<=(off+cap0)*sz:=by rw [hroom,<-Nat.add_assoc];omega
       have:=Nat.le_of_mul_le_mul_right h5 hsz
       omega
      have hvl:vals.length=ys.length*sz:=hR.len
      have h7:(off+len+ys.length)*sz=off*sz+len*sz+ys.length*sz:=by rw [Nat.add_mul,Nat.add_mul]
      have h8:(off+len)*sz=off*sz+len*sz:=Nat.add_mul _ _ _
      have hst:=run_storeCells_at P g (dW+off*sz+len*sz) el vals 0 cells w hg (by omega) hR.one
      simp only [Nat.add_zero,List.append_assoc] at hst
      have hfc:(Builtin.firstCells sz ys.length (.slice (some B) ys.length cap)).run P w= .ok vals.toArray w:=run_firstCells_some w sz ys.length B ys.length cap vals hvl (hcell B rfl)
      have hrun:(Builtin.append_ #[ty,ty] o.type #[a.eval s,a.eval x]).run P w= .ok (.slice (some ⟨g,dW+off*sz,none⟩) (len+ys.length) cap0) (w.setRow g (pasted cells (dW+off*sz+len*sz) vals.toArray)):=by
       rw [hsv,hx]
       simp [Builtin.append_,run_underlying hE.und,sizeOf,typeInfo,hi,Builtin.lenOf,hfits,hfc,add_plain,his,hst,pasted]
      have hmv:Moved C ρ U h w b (.at g dW n) (w.setRow g (pasted cells (dW+off*sz+len*sz) vals.toArray)):=by
       refine ⟨rfl,rfl,rfl,by simp,fun k hk hkb=> ?_,.inl ⟨hub,hl.symm⟩⟩
       by_cases hkg:k=g
       ·subst hkg;exact absurd hl (hkb dW n)
       ·exact oP w g k _ hkg
      have hps:=jb cells (dW+off*sz+len*sz) vals.toArray (by simp;omega)
      have hgt:∀ k:Nat,(xs.take (off+len)++(ys++xs.drop (off+len+ys.length)))[k]? =if k<off+len then xs[k]? else if k<off+len+ys.length then ys[k - (off+len)]? else xs[k]? :=
       fun k=>wF xs ys (off+len) k hin
      refine Run.moved (b:=b) (ob:= .row el sz (xs.take (off+len)++(ys++xs.drop (off+len+ys.length)))) hr hmv (fun ⟨cs,hcs⟩=>by rw [hb] at hcs;cases hcs) ?_ (.inl (dD _ _ hrun)) (.own (.inl hub) ⟨⟨_,_,_,rfl⟩,?_⟩) (.inl hub) _
      ·refine .inr ⟨g,dW,n,_,rfl,setRow_heap w g cells _ el (0,0) hg,by rw [hps];exact hcs,by
        rw [show (xs.take (off+len)++(ys++xs.drop (off+len+ys.length))).length=xs.length from by simp;omega];exact hxn,fun k x' hk=> ?_,fun k x' j c hk hj=> ?_⟩
       ·rw [hgt] at hk
        split at hk
        ·exact hrl _ _ hk
        ·split at hk
         ·exact hR.el _ _ hk
         ·exact hrl _ _ hk
       ·rw [iC _ _ _ (by simp;omega)]
        rw [hgt] at hk
        split at hk
        ·rename_i hko
         obtain ⟨u,hu1,hu2,hu3⟩:=wH k x' j c hk hj
         have hjs:j<sz:=by rw [<-hrl k x' hk];exact (List.getElem?_eq_some_iff.1 hj).1
         have:(k+1)*sz<=(off+len)*sz:=Nat.mul_le_mul_right _ hko
         rw [Nat.add_mul,Nat.one_mul] at this
         rw [if_pos (by omega)]
         exact ⟨u,hu1,hu2,hmv.vp hu3⟩
        ·split at hk
         ·rename_i hko hkl
          have hjs:j<sz:=by rw [<-hR.el _ x' hk];exact (List.getElem?_eq_some_iff.1 hj).1
          obtain ⟨v,hv1,hv2⟩:=hR.rel _ x' j c hk hj
          have h9:k*sz=(off+len)*sz+(k - (off+len))*sz:=by rw [<-Nat.add_mul];congr 1;omega
          have h10:(k - (off+len)+1)*sz<=ys.length*sz:=Nat.mul_le_mul_right _ (by omega)
          rw [Nat.add_mul,Nat.one_mul] at h10
          rw [if_neg (by omega),if_pos (by simp;omega)]
          refine ⟨v,?_,hR.one v (List.mem_iff_getElem?.2 ⟨_,hv1⟩),hmv.vp hv2⟩
          rw [show dW+(k*sz+j) - (dW+off*sz+len*sz)=(k - (off+len))*sz+j from by omega]
          simpa using hv1
         ·rename_i hko hkl
          obtain ⟨u,hu1,hu2,hu3⟩:=wH k x' j c hk hj
          have h9:(off+len+ys.length)*sz<=k*sz:=Nat.mul_le_mul_right _ (by omega)
          rw [if_neg (by omega),if_neg (by simp;omega)]
          exact ⟨u,hu1,hu2,hmv.vp hu3⟩
      ·have:up ρ b (.at g dW n) b= .at g dW n:=by simp [up]
       rw [this]
       exact .inr ⟨cap0,hfits,hroom,rfl⟩
    rename_i ayo
    simp only [Option.some.injEq] at he;subst he
    obtain ⟨hp1,hby,hml,hfit⟩:=hp
    obtain ⟨vals,hR⟩:=news p ys hcn hp1
    obtain ⟨ad,cap,hx,hnil,hcell⟩:=hR.form
    have hvs:=aL ht hs
    obtain ⟨hub,⟨_,_,_,hsl⟩,hown⟩:=hvs.oL
    obtain ⟨olds,hO⟩:=Bd (p:=off+len<=xs.length) (xs:=(xs.drop off).take len) hr hsz hvs (by simp [kP,hb]) hfit
    obtain ⟨Be,caps,hxs,aeQ,hcells⟩:=hO.form
    have hlen:((xs.drop off).take len).length=len:=by simp;omega
    have hnb:∀ cs,get h b≠some (.box cs):=by intro cs e;rw [hb] at e;cases e
    have hA:=hO.append hR
    have htot:((xs.drop off).take len++ys).length=len+ys.length:=by rw [List.length_append,hlen]
    have hne:∀ e,get h b=some e->e= .row el sz xs:=by intro e he';rw [hb] at he';cases he';rfl
    have grow:∀ (A:Addr) (old:Nat),Be=some A->a.eval s= .slice (some A) len old->old<len+ys.length->0<ys.length->
      ∀ pp,Run C ρ U h w nm ((execOp a.eval o).run P w) ⟨pp,.own nm sz 0 (len+ys.length),[(nm,.row el sz ((xs.drop off).take len++ys)),(b,.dead)]⟩:=by
     intro A old hA1 hA2 hlt hpos pp
     have had:∃ B,ad=some B:=by
      cases ad with
      |none=>exact absurd (by rw [hnil rfl];rfl) (Nat.ne_of_gt hpos)
      |some B=>exact ⟨B,rfl⟩
     obtain ⟨B,rfl⟩:=had
     have hrun:=run_append_grow (P:=P) w ty o.type el i z hE.und hi hiz A len old olds (by rw [hO.len,his,hlen]) (hcells A hA1) B ys.length cap vals (by rw [hR.len,his]) (hcell B rfl) hlt
      (by unfold maxLen at hml;omega) (growslice_fits hlt (by rw [hib];exact hby))
     have hcapge:=grownCap_ge w (len+ys.length) old el
     have hm:fZ C ρ U h w b nm (.at w.heap.size 0 (grownCap w (len+ys.length) old el*sz)) (w.drew.alloc (.cells (olds.toArray++vals.toArray++Builtin.zeroCells z.cells (grownCap w (len+ys.length) old el - (len+ys.length))) el)):=
      ⟨rfl,rfl,rfl,by simp,fun g hg _=>Go.RowKit.Below.heap_alloc w.drew _ g hg,hub,hn,hnb,.inr ⟨w.heap.size,0,_,rfl,.inl ⟨Nat.le_refl _,by simp⟩⟩⟩
     have hnew:=yJ (w':=w.drew.alloc (.cells (olds.toArray++vals.toArray++Builtin.zeroCells z.cells (grownCap w (len+ys.length) old el - (len+ys.length))) el))
      (ok:=ay C (cB ρ b nm (.at w.heap.size 0 (grownCap w (len+ys.length) old el*sz))) (w.drew.alloc (.cells (olds.toArray++vals.toArray++Builtin.zeroCells z.cells (grownCap w (len+ys.length) old el - (len+ys.length))) el)))
      (ρ':=cB ρ b nm (.at w.heap.size 0 (grownCap w (len+ys.length) old el*sz))) (U':=fV U nm) (el:=el) (sz:=sz) (g:=w.heap.size) (m:=len+ys.length) (cap:=grownCap w (len+ys.length) old el) (xs:=(xs.drop off).take len++ys) (vals:=olds++vals)
      (rest:=(Builtin.zeroCells z.cells (grownCap w (len+ys.length) old el - (len+ys.length))).toList)
      (by rw [show (olds++vals++(Builtin.zeroCells z.cells (grownCap w (len+ys.length) old el - (len+ys.length))).toList).toArray=olds.toArray++vals.toArray++Builtin.zeroCells z.cells (grownCap w (len+ys.length) old el - (len+ys.length)) from by apply Array.ext';simp];exact heap_alloc_new w.drew _)
      hA.1 hA.2.1 (fun q hq=>(List.mem_append.1 hq).elim (hO.one q) (hR.one q)) (fun k x j c hk hj=>(hA.2.2 k x j c hk hj).imp fun q hq=>⟨hq.1,hm.vp hq.2⟩)
      (by rw [List.length_append,hA.1,htot,uF,hzc,<-Nat.add_mul];congr 1;omega) htot.symm hcapge
     refine Run.Bc hr hm hnew.1 (dD _ _ (by rw [hA2,hx];exact hrun)) (.own (.inr rfl) ?_) _
     have:cB ρ b nm (.at w.heap.size 0 (grownCap w (len+ys.length) old el*sz)) nm= .at w.heap.size 0 (grownCap w (len+ys.length) old el*sz):=by simp [cB,up]
     rw [this]
     exact hnew.2
    have hrow:=(hr.hp b _ hb).2
    have MI:len=0->a.eval s= .slice none 0 0->
      ∀ pp,Run C ρ U h w nm ((execOp a.eval o).run P w) ⟨pp,.own nm sz 0 (len+ys.length),[(nm,.row el sz ((xs.drop off).take len++ys)),(b,.dead)]⟩:=by
     intro h0 hsv pp
     subst h0
     simp only [List.take_zero,List.nil_append,Nat.zero_add] at hA htot hml hby ⊢
     by_cases hy0:ys.length=0
     ·have hys:ys=[]:=List.eq_nil_of_length_eq_zero hy0
      subst hys
      have hrun:(Builtin.append_ #[ty,ty] o.type #[a.eval s,a.eval x]).run P w= .ok (.slice none 0 0) w:=by
       rw [hsv,hx]
       cases ad<;>simp [Builtin.append_,run_underlying hE.und,sizeOf,typeInfo,hi,Builtin.lenOf,Builtin.firstCells,loadCells,loadCellsFrom]
      have hm:fZ C ρ U h w b nm .nil w:=⟨rfl,rfl,rfl,Nat.le_refl _,fun _ _ _=>rfl,hub,hn,hnb,.inl rfl⟩
      refine Run.Bc (ob:= .row el sz []) hr hm (Or.inl ⟨rfl,rfl⟩) (dD _ _ hrun) (.own (.inr rfl) ⟨⟨_,_,_,rfl⟩,?_⟩) _
      simp [cB,up]
     ·have had:∃ B,ad=some B:=by
       cases ad with
       |none=>exact absurd (by rw [hnil rfl];rfl) hy0
       |some B=>exact ⟨B,rfl⟩
      obtain ⟨B,rfl⟩:=had
      have hrun:=run_append_nil (P:=P) w ty o.type el i z hE.und hi hiz B ys.length cap vals (by rw [hR.len,his]) (hcell B rfl) (by omega) (by unfold maxLen at hml;omega) (by rw [hib];omega)
      have hcapge:=grownCap_ge w ys.length 0 el
      have hm:fZ C ρ U h w b nm (.at w.heap.size 0 (grownCap w ys.length 0 el*sz)) (w.drew.alloc (.cells (vals.toArray++Builtin.zeroCells z.cells (grownCap w ys.length 0 el - ys.length)) el)):=
       ⟨rfl,rfl,rfl,by simp,fun g hg _=>Go.RowKit.Below.heap_alloc w.drew _ g hg,hub,hn,hnb,.inr ⟨w.heap.size,0,_,rfl,.inl ⟨Nat.le_refl _,by simp⟩⟩⟩
      have hnew:=yJ (w':=w.drew.alloc (.cells (vals.toArray++Builtin.zeroCells z.cells (grownCap w ys.length 0 el - ys.length)) el)) (ok:=ay C (cB ρ b nm (.at w.heap.size 0 (grownCap w ys.length 0 el*sz))) (w.drew.alloc (.cells (vals.toArray++Builtin.zeroCells z.cells (grownCap w ys.length 0 el - ys.length)) el)))
       (ρ':=cB ρ b nm (.at w.heap.size 0 (grownCap w ys.length 0 el*sz))) (U':=fV U nm) (el:=el) (sz:=sz) (g:=w.heap.size) (m:=ys.length) (cap:=grownCap w ys.length 0 el) (xs:=ys) (vals:=vals) (rest:=(Builtin.zeroCells z.cells (grownCap w ys.length 0 el - ys.length)).toList)
       (by rw [show (vals++(Builtin.zeroCells z.cells (grownCap w ys.length 0 el - ys.length)).toList).toArray=vals.toArray++Builtin.zeroCells z.cells (grownCap w ys.length 0 el - ys.length) from by apply Array.ext';simp];exact heap_alloc_new w.drew _)
       hR.len hR.el hR.one (fun k x j c hk hj=>(hR.rel k x j c hk hj).imp fun q hq=>⟨hq.1,hm.vp hq.2⟩)
       (by rw [List.length_append,hR.len,uF,hzc,<-Nat.add_mul];congr 1;omega) rfl hcapge
      refine Run.Bc hr hm hnew.1 (dD _ _ (by rw [hsv,hx];exact hrun)) (.own (.inr rfl) ?_) _
      have:cB ρ b nm (.at w.heap.size 0 (grownCap w ys.length 0 el*sz)) nm= .at w.heap.size 0 (grownCap w ys.length 0 el*sz):=by simp [cB,up]
      rw [this]
      exact hnew.2
    cases hl:ρ b with
    |dead=>rcases hrow with ⟨e',_⟩|⟨_,_,_,_,e',_⟩<;>rw [hl] at e'<;>cases e'
    |nil=>
     rw [hl] at hown
     exact MI hown.1 hown.2 _
    |«at» g dW n=>
     rw [hl] at hown
     rcases hown with ⟨h0,hno,hsv|⟨A,hsv⟩⟩|⟨cap0,hlc,hroom,hsv⟩
     ·exact MI h0 hsv _
     ·by_cases hy0:ys.length=0
      ·have hys:ys=[]:=List.eq_nil_of_length_eq_zero hy0
       subst hys;subst h0
       have hrun:(Builtin.append_ #[ty,ty] o.type #[a.eval s,a.eval x]).run P w= .ok (.slice (some A) 0 0) w:=by
        rw [hsv,hx]
        cases ad<;>simp [Builtin.append_,run_underlying hE.und,sizeOf,typeInfo,hi,Builtin.lenOf,Builtin.firstCells,loadCells,loadCellsFrom,storeCells]
       have hm:fZ C ρ U h w b nm (.at g dW 0) w:=⟨rfl,rfl,rfl,Nat.le_refl _,fun _ _ _=>rfl,hub,hn,hnb,.inr ⟨g,dW,0,rfl,.inr ⟨dW,n,hl⟩⟩⟩
       simp only [List.take_zero,List.nil_append,Nat.zero_add]
       refine Run.Bc (ob:= .row el sz []) hr hm ?_ (dD _ _ hrun) (.own (.inr rfl) ⟨⟨_,_,_,rfl⟩,?_⟩) _
       ·rcases hrow with ⟨e',_⟩|⟨g',o',n',cells,e',hg,hcs,_⟩
        ·rw [hl] at e';cases e'
        ·rw [hl] at e';cases e'
         exact .inr ⟨g,dW,0,cells,rfl,hg,by omega,by simp,by simp,by simp⟩
       ·simp [cB,up]
      ·have hA2:Be=some A:=by rw [hsv] at hxs;injection hxs with e1;exact e1.symm
       subst h0
       exact grow A 0 hA2 hsv (by omega) (by omega) _
     ·have hA2:Be=some ⟨g,dW+off*sz,none⟩:=by rw [hsv] at hxs;injection hxs with e1;exact e1.symm
      rcases hrow with ⟨e',_⟩|⟨g',o',n',cells,e',hg,hcs,hxn,hrl,wH⟩
      ·rw [hl] at e';cases e'
      ·rw [hl] at e';cases e'
       by_cases hfits:len+ys.length<=cap0
       ·
        have hmul:(off+(len+ys.length))*sz<=(off+cap0)*sz:=Nat.mul_le_mul_right _ (by omega)
        rw [Nat.add_mul off,Nat.add_mul len] at hmul
        have hvl:vals.length=ys.length*sz:=hR.len
        have hst:=run_storeCells_at P g (dW+off*sz+len*sz) el vals 0 cells w hg (by omega) hR.one
        simp only [Nat.add_zero,List.append_assoc] at hst
        have hfc:(Builtin.firstCells sz ys.length (.slice ad ys.length cap)).run P w= .ok vals.toArray w:=by
         cases ad with
         |none=>
          have:=hnil rfl
          subst this
          have hv0:vals=[]:=List.eq_nil_of_length_eq_zero (by simpa using hvl)
          rw [hv0]
          exact run_firstCells_none w sz 0 0 cap
         |some B=>exact run_firstCells_some w sz ys.length B ys.length cap vals hvl (hcell B rfl)
        have hrun:(Builtin.append_ #[ty,ty] o.type #[a.eval s,a.eval x]).run P w= .ok (.slice (some ⟨g,dW+off*sz,none⟩) (len+ys.length) cap0) (w.setRow g (pasted cells (dW+off*sz+len*sz) vals.toArray)):=by
         rw [hsv,hx]
         simp [Builtin.append_,run_underlying hE.und,sizeOf,typeInfo,hi,Builtin.lenOf,hfits,hfc,add_plain,his,hst,pasted]
        have hm:fZ C ρ U h w b nm (.at g (dW+off*sz) (n - off*sz)) (w.setRow g (pasted cells (dW+off*sz+len*sz) vals.toArray)):=by
         refine ⟨rfl,rfl,rfl,by simp,fun k hk hkb=> ?_,hub,hn,hnb,.inr ⟨g,_,_,rfl,.inr ⟨dW,n,hl⟩⟩⟩
         by_cases hkg:k=g
         ·subst hkg;exact absurd hl (hkb dW n)
         ·exact oP w g k _ hkg
        have hps:=jb cells (dW+off*sz+len*sz) vals.toArray (by simp;omega)
        refine Run.Bc hr hm ?_ (dD _ _ hrun) (.own (.inr rfl) ⟨⟨_,_,_,rfl⟩,?_⟩) _
        ·refine .inr ⟨g,_,_,_,rfl,setRow_heap w g cells _ el (0,0) hg,by rw [hps];omega,by rw [htot,Nat.add_mul];omega,hA.2.1,fun k x' j c hk hj=> ?_⟩
         have hjs:j<sz:=by rw [<-hA.2.1 k x' hk];exact (List.getElem?_eq_some_iff.1 hj).1
         rw [List.getElem?_append,hlen] at hk
         split at hk
         ·rename_i hkl
          rw [List.getElem?_take,if_pos hkl,List.getElem?_drop] at hk
          obtain ⟨u,hu1,hu2,hu3⟩:=wH _ x' j c hk hj
          refine ⟨u,?_,hu2,hm.vp hu3⟩
          have h3:k*sz+sz<=len*sz:=by
           have:(k+1)*sz<=len*sz:=Nat.mul_le_mul_right _ hkl
           rw [Nat.add_mul,Nat.one_mul] at this
           exact this
          rw [iC _ _ _ (by simp;omega),if_pos (by omega)]
          rw [show dW+off*sz+(k*sz+j)=dW+((off+k)*sz+j) from by rw [Nat.add_mul];omega]
          exact hu1
         ·rename_i hkl
          obtain ⟨v,hv1,hv2⟩:=hR.rel _ x' j c hk hj
          have ayp:=(List.getElem?_eq_some_iff.1 hv1).1
          refine ⟨v,?_,hR.one v (List.mem_iff_getElem?.2 ⟨_,hv1⟩),hm.vp hv2⟩
          have h3:k*sz=len*sz+(k - len)*sz:=by rw [<-Nat.add_mul];congr 1;omega
          rw [iC _ _ _ (by simp;omega),if_neg (by omega),if_pos (by simp;omega)]
          rw [show dW+off*sz+(k*sz+j) - (dW+off*sz+len*sz)=(k - len)*sz+j from by omega]
          simpa using hv1
        ·have:cB ρ b nm (.at g (dW+off*sz) (n - off*sz)) nm= .at g (dW+off*sz) (n - off*sz):=by simp [cB,up]
         rw [this]
         refine .inr ⟨cap0,hfits,?_,by simp⟩
         rw [Nat.zero_add]
         rw [Nat.add_mul] at hroom
         omega
       ·have hpos:0<ys.length:=by omega
        exact grow _ cap0 hA2 hsv (by omega) hpos _
   ·cases he
  ·cases he
 ·cases he
end
end Go.Eng
namespace Go.Eng
open Go
section
variable {P:Program} {C:Ctx} {ρ:Nat->Loc} {U:Nat->Prop} {h:List (Nat×Ob)} {w:World} {nm:Nat} {t:List (Nat×AV)} {a:Act} {o:Oper} {e:E}
theorem foldl_set (off:Nat):∀ (vs:List Value) (k:Nat) (cells:Array Value),off+k+vs.length<=cells.size->
  ((vs.zipIdx k).foldl (fun cs (x:Value×Nat)=>cs.setIfInBounds (off+x.2) x.1) cells).size=cells.size/\
  ∀ i:Nat,((vs.zipIdx k).foldl (fun cs (x:Value×Nat)=>cs.setIfInBounds (off+x.2) x.1) cells)[i]? =
   if i<off+k then cells[i]? else if i<off+k+vs.length then vs[i - (off+k)]? else cells[i]?
 |[],k,cells,_=>by
  refine ⟨rfl,fun i=> ?_⟩
  simp only [List.zipIdx_nil,List.foldl_nil,List.length_nil,Nat.add_zero]
  split
  ·rfl
  ·rfl
 |v::vs,k,cells,hl=>by
  simp only [List.length_cons] at hl
  have ih:=foldl_set off vs (k+1) (cells.setIfInBounds (off+k) v) (by simp;omega)
  simp only [List.zipIdx_cons,List.foldl_cons]
  refine ⟨by rw [ih.1];simp,fun i=> ?_⟩
  rw [ih.2 i]
  simp only [List.length_cons,Array.getElem?_setIfInBounds]
  by_cases h1:i<off+k
  ·rw [if_pos (by omega),if_pos h1,if_neg (by omega)]
  ·rw [if_neg h1]
   by_cases h2:i=off+k
   ·subst h2
    rw [if_pos (by omega),if_pos rfl,if_pos (by omega),if_pos (by omega),Nat.sub_self]
    rfl
   ·have e1:¬ off+k=i:=fun e=>h2 e.symm
    have e2:¬ i<off+(k+1):=by omega
    simp only [e1,e2,if_false]
    by_cases h3:i<off+k+(vs.length+1)
    ·rw [if_pos (by omega),if_pos h3]
     rw [show i - (off+k)=i - (off+(k+1))+1 from by omega]
     simp
    ·rw [if_neg (by omega),if_neg h3]
theorem Bf (off:Nat) (v cells:Array Value) (hl:off+v.size<=cells.size):
  v.zipIdx.foldl (fun cs (x:Value×Nat)=>cs.setIfInBounds (off+x.2) x.1) cells=pasted cells off v:=by
 have h0:=foldl_set off v.toList 0 cells (by simpa using hl)
 have e:v.zipIdx.foldl (fun cs (x:Value×Nat)=>cs.setIfInBounds (off+x.2) x.1) cells=(v.toList.zipIdx 0).foldl (fun cs (x:Value×Nat)=>cs.setIfInBounds (off+x.2) x.1) cells:=by
  rw [<-Array.foldl_toList,Array.toList_zipIdx]
 rw [e]
 apply Array.ext_getElem?
 intro i
 rw [h0.2 i,iC _ _ _ hl]
 simp
theorem Hg {ok:Nat->Prop} (place:Nat->Option (Nat×Nat)):∀ (ps:List (Nat×Value)) (qs:List (Nat×List AV)) (cells:Array Value) (cs cs':List AV),
  VL w ok ρ U cs cells->yC cs qs=some cs'->ps.length=qs.length->
  (∀ (i:Nat) (p:Nat×Value) (q:Nat×List AV),ps[i]? =some p->qs[i]? =some q->place p.1=some (q.1,q.2.length)/\VL w ok ρ U q.2 p.2.cells)->
  ∃ cells',Instr.fill place cells ps=some cells'/\VL w ok ρ U cs' cells'
 |[],[],cells,cs,cs',hv,hf,_,_=>by
  simp only [yC,Option.some.injEq] at hf;subst hf
  exact ⟨cells,rfl,hv⟩
 |p::ps,q::qs,cells,cs,cs',hv,hf,hl,hpq=>by
  obtain ⟨off,ys⟩:=q
  obtain ⟨hpl,hvl⟩:=hpq 0 p (off,ys) rfl rfl
  simp only [yC] at hf
  split at hf
  ·rename_i hfit
   have h1:=hvl.1
   have h2:=hv.1
   simp only at h1 hpl hvl
   have hstep:VL w ok ρ U (splice cs off ys) (pasted cells off p.2.cells):=by
    refine ⟨by rw [DL _ _ _ hfit,jb _ _ _ (by omega)];exact h2,fun i c u hi hu=> ?_⟩
    rw [splice,wF _ _ _ _ hfit] at hi
    rw [iC _ _ _ (by omega)] at hu
    by_cases c1:i<off
    ·rw [if_pos c1] at hi hu;exact hv.2 i c u hi hu
    ·rw [if_neg c1] at hi hu
     by_cases c2:i<off+ys.length
     ·rw [if_pos c2] at hi
      rw [if_pos (by omega)] at hu
      exact hvl.2 _ c u hi hu
     ·rw [if_neg c2] at hi
      rw [if_neg (by omega)] at hu
      exact hv.2 i c u hi hu
   obtain ⟨cells',hc,hv'⟩:=Hg place ps qs (pasted cells off p.2.cells) _ cs' hstep hf (by simpa using hl) (fun i p' q' h1 h2=>hpq (i+1) p' q' (by simpa using h1) (by simpa using h2))
   refine ⟨cells',?_,hv'⟩
   simp only [Instr.fill,hpl]
   rw [if_neg (by simp;omega)]
   rw [Bf _ _ _ (by omega)]
   exact hc
  ·cases hf
theorem Hl (ht:Tm C ρ U w t a):∀ (ps:List (Nat×Nat×Operand)) (qs:List (Nat×List AV)),r9 t ps=some qs->ps.length=qs.length/\
  ∀ (i:Nat) (p:Nat×Nat×Operand) (q:Nat×List AV),ps[i]? =some p->qs[i]? =some q->p.1=q.1/\p.2.1=q.2.length/\VL w (ay C ρ w) ρ U q.2 (a.eval p.2.2).cells
 |[],qs,hq=>by simp only [r9,Option.some.injEq] at hq;subst hq;simp
 |(off,sz,x)::ps,qs,hq=>by
  simp only [r9] at hq
  split at hq
  ·rename_i y l hy hl
   split at hq
   ·rename_i ys hys
    split at hq
    ·rename_i hlen
     simp only [Option.some.injEq] at hq;subst hq
     have ih:=Hl ht ps l hl
     refine ⟨by simp [ih.1],fun i p q hp hq=> ?_⟩
     cases i with
     |zero=>
      simp at hp hq;subst hp;subst hq
      exact ⟨rfl,hlen.symm,(yH (aL ht hy) hys).1⟩
     |succ i=>exact ih.2 i p q (by simpa using hp) (by simpa using hq)
    ·cases hq
   ·cases hq
  ·cases hq
theorem MJ {ok:Nat->Prop} {z:Value}:VL w ok ρ U (z.cells.toList.map .v) z.cells:=by
 refine ⟨by simp,fun i c u h1 h2=> ?_⟩
 simp only [List.getElem?_map] at h1
 rw [<-Array.getElem?_toList] at h2
 rw [h2] at h1
 simp at h1;subst h1
 exact .p (.v _)
theorem sH {el:TypeId} {zs:List Value} (hz:zerosOf P el=some zs):∃ i z,P.info? el=some i/\i.zero=some z/\z.cells.toList=zs:=by
 unfold zerosOf at hz
 split at hz
 ·rename_i i hi
  split at hz
  ·rename_i z hiz
   simp only [Option.some.injEq] at hz
   exact ⟨i,z,hi,hiz,hz⟩
  ·cases hz
 ·cases hz
theorem Ho {fs:Array Field}:∀ (l:List (Nat×Operand)) (r:List (Nat×Nat×Operand)),stripParts P fs l=some r->l.length=r.length/\
  ∀ (i:Nat) (p:Nat×Operand) (q:Nat×Nat×Operand),l[i]? =some p->r[i]? =some q->p.2=q.2.2/\∃ f,fs[p.1]? =some f/\f.offset=q.1/\sizeP P f.type=some q.2.1
 |[],r,hr=>by simp only [stripParts,Option.some.injEq] at hr;subst hr;simp
 |(i,x)::l,r,hr=>by
  simp only [stripParts] at hr
  split at hr
  ·rename_i f hf
   split at hr
   ·rename_i sz hs
    split at hr
    ·rename_i r' hr'
     simp only [Option.some.injEq] at hr;subst hr
     have ih:=Ho l r' hr'
     refine ⟨by simp [ih.1],fun j p q hp hq=> ?_⟩
     cases j with
     |zero=>simp at hp hq;subst hp;subst hq;exact ⟨rfl,f,hf,rfl,hs⟩
     |succ j=>exact ih.2 j p q (by simpa using hp) (by simpa using hq)
    ·cases hr
   ·cases hr
  ·cases hr
theorem aeR (hr:HR C ρ U h w) (ht:Tm C ρ U w t a) {ty:TypeId} {fs:Array Field} {zs:List Value} {parts:Array (Nat×Operand)} {ps:List (Nat×Nat×Operand)}
  (h1:P.underlying ty=some (.struct fs)) (hz:zerosOf P ty=some zs) (hps:stripParts P fs parts.toList=some ps) (hsz:∀ f ∈ fs.toList,(sizeP P f.type).isSome=true)
  (ho:o.op= .build ty parts) (he:av nm t h (.build zs ps)=some e):Run C ρ U h w nm ((execOp a.eval o).run P w) e:=by
 simp only [av] at he
 split at he
 ·rename_i qs Hq
  split at he
  ·rename_i cs hcs
   simp only [E.ok,Option.some.injEq] at he;subst he
   obtain ⟨i,z,hi,hiz,hzl⟩:=sH hz
   subst hzl
   have hS:=Ho _ _ hps
   have hA:=Hl ht _ _ Hq
   have Hr:∀ (l:List Field),(∀ f ∈ l,(sizeP P f.type).isSome=true)->∀ w,(l.mapM (m:=Sem) fun f=>do pure (f.offset,<-sizeOf f.type)).run P w= .ok (l.map fun f=>(f.offset,(sizeP P f.type).getD 0)) w:=by
    intro l
    induction l with
    |nil=>intro _ w;simp
    |cons f l ih=>
     intro hl w
     have hf:=hl f (by simp)
     obtain ⟨n,hn⟩:=Option.isSome_iff_exists.1 hf
     simp only [List.mapM_cons,Sem.run_bind,cu hn,Result.andThen_ok,Sem.run_pure,ih (fun g hg=>hl g (by simp [hg])),List.map_cons,hn,Option.getD_some]
   have Ht:(fs.mapM (m:=Sem) fun f=>do pure (f.offset,<-sizeOf f.type)).run P w= .ok (fs.toList.map fun f=>(f.offset,(sizeP P f.type).getD 0)).toArray w:=by
    rw [Array.mapM_eq_mapM_toList,Sem.run_map,Hr _ hsz w]
    rfl
   have Hu:=Hg (w:=w) (ρ:=ρ) (U:=U) (ok:=ay C ρ w) (fun k=>((fs.toList.map fun f=>(f.offset,(sizeP P f.type).getD 0)).toArray)[k]?) (parts.toList.map fun p=>(p.1,a.eval p.2)) qs z.cells _ cs MJ hcs
    (by rw [List.length_map,hS.1,hA.1]) (fun k p q hp hq=>by
     simp only [List.getElem?_map,Option.map_eq_some_iff] at hp
     obtain ⟨p0,hp0,rfl⟩:=hp
     have hlt:k<ps.length:=by rw [hA.1];exact (List.getElem?_eq_some_iff.1 hq).1
     have hp1:=List.getElem?_eq_getElem hlt
     obtain ⟨e1,f,hf,e2,e3⟩:=hS.2 k p0 _ hp0 hp1
     obtain ⟨e4,e5,e6⟩:=hA.2 k _ q hp1 hq
     refine ⟨?_,by rw [e1];exact e6⟩
     simp only [List.getElem?_toArray,List.getElem?_map,Array.getElem?_toList,hf,Option.map_some,e3,Option.getD_some,e2,e4,e5])
   obtain ⟨cells',hc,hv⟩:=Hu
   have hrun:(execOp a.eval o).run P w= .ok (.value (.agg cells')) w:=by
    have e0:(parts.map fun (x:Nat×Operand)=>(x.1,a.eval x.2)).toList=parts.toList.map fun p=>(p.1,a.eval p.2):=by simp
    simp only [execOp,ho,Instr.build,Sem.run_bind,zeroValue,typeInfo,run_program,hi,hiz,Sem.run_pure,Result.andThen_ok,run_underlying h1,Ht]
    rw [e0,hc]
    rfl
   rw [hrun]
   exact .same hr (.agg hv.1 hv.2) True
  ·cases he
 ·cases he
end
end Go.Eng
namespace Go.Eng
open Go
section
variable {P:Program} {C:Ctx} {ρ:Nat->Loc} {U:Nat->Prop} {h:List (Nat×Ob)} {w:World} {nm:Nat} {t:List (Nat×AV)} {a:Act} {o:Oper} {e:E}
theorem aeS (hr:HR C ρ U h w) (ht:Tm C ρ U w t a) {ty el:TypeId} {n sz:Nat} {zs:List Value} {parts:Array (Nat×Operand)}
  (h1:P.underlying ty=some (.array n el)) (hz:zerosOf P ty=some zs) (hs:sizeP P el=some sz)
  (ho:o.op= .build ty parts) (he:av nm t h (.build zs (parts.toList.map fun p=>(p.1*sz,sz,p.2)))=some e):Run C ρ U h w nm ((execOp a.eval o).run P w) e:=by
 simp only [av] at he
 split at he
 ·rename_i qs Hq
  split at he
  ·rename_i cs hcs
   simp only [E.ok,Option.some.injEq] at he;subst he
   obtain ⟨i,z,hi,hiz,hzl⟩:=sH hz
   subst hzl
   have hA:=Hl ht _ _ Hq
   have Hu:=Hg (w:=w) (ρ:=ρ) (U:=U) (ok:=ay C ρ w) (fun k=>some (k*sz,sz)) (parts.toList.map fun p=>(p.1,a.eval p.2)) qs z.cells _ cs MJ hcs
    (by rw [List.length_map,<-hA.1,List.length_map]) (fun k p q hp hq=>by
     simp only [List.getElem?_map,Option.map_eq_some_iff] at hp
     obtain ⟨p0,hp0,rfl⟩:=hp
     obtain ⟨e4,e5,e6⟩:=hA.2 k (p0.1*sz,sz,p0.2) q (by simp [hp0]) hq
     simp only at e4 e5 e6 ⊢
     exact ⟨by rw [e4,<-e5],e6⟩)
   obtain ⟨cells',hc,hv⟩:=Hu
   have hrun:(execOp a.eval o).run P w= .ok (.value (.agg cells')) w:=by
    have e0:(parts.map fun (x:Nat×Operand)=>(x.1,a.eval x.2)).toList=parts.toList.map fun p=>(p.1,a.eval p.2):=by simp
    simp only [execOp,ho,Instr.build,Sem.run_bind,zeroValue,typeInfo,run_program,hi,hiz,Sem.run_pure,Result.andThen_ok,run_underlying h1,cu hs]
    rw [e0,hc]
    rfl
   rw [hrun]
   exact .same hr (.agg hv.1 hv.2) True
  ·cases he
 ·cases he
theorem DR {ty:TypeId} {cs:Array Value} {off:Nat} {v:Value} (hu:(∃ q,P.underlying ty=some (.int q))\/P.underlying ty=some .string\/P.underlying ty=some .bool) (hv:cs[off]? =some v) (w:World):
  (part ty cs off).run P w= .ok v w:=by
 have ha:aggP P ty=some false:=by
  unfold aggP
  rcases hu with ⟨q,hu⟩|hu|hu<;>rw [hu]
 simp only [part,Sem.run_bind,jR ha,Result.andThen_ok,Bool.false_eq_true,if_false,hv,Sem.run_pure]
section
variable {P:Program} {w:World}
def yK (P:Program) (k:Nat) (ty:TypeId):Prop:=(k=0/\∃ q,P.underlying ty=some (.int q))\/(k=1/\P.underlying ty=some .string)\/(k=2/\P.underlying ty=some .bool)
def gP (P:Program) (w:World):List Nat->List Value->List Value->Bool->Prop
 |[],[],[],b=>b=true
 |k::ks,u::us,v::vs,b=>∃ b1 b2,b=(b1&&b2)/\(∀ d ty,yK P k ty->(Op.equalIn (d+1) ty u v).run P w= .ok b1 w)/\gP P w ks us vs b2
 |_,_,_,_=>False
theorem gP.len:∀ {ks us vs b},gP P w ks us vs b->us.length=ks.length/\vs.length=ks.length
 |[],[],[],b,h=>⟨rfl,rfl⟩
 |k::ks,u::us,v::vs,b,h=>by
  obtain ⟨b1,b2,_,_,h⟩:=h
  have:=h.len
  simp [this.1,this.2]
theorem gP.split:∀ {k1 k2 us vs b},gP P w (k1++k2) us vs b->∃ b1 b2,b=(b1&&b2)/\gP P w k1 (us.take k1.length) (vs.take k1.length) b1/\gP P w k2 (us.drop k1.length) (vs.drop k1.length) b2
 |[],k2,us,vs,b,h=>⟨true,b,by simp,by simp [gP],by simpa using h⟩
 |k::k1,k2,u::us,v::vs,b,h=>by
  obtain ⟨b1,b2,rfl,h1,h2⟩:=h
  obtain ⟨c1,c2,rfl,g1,g2⟩:=gP.split h2
  exact ⟨b1&&c1,c2,by simp [Bool.and_assoc],⟨b1,c1,rfl,h1,by simpa using g1⟩,by simpa using g2⟩
theorem aeT {f:Field} {fs:List Field} {i:Nat} {ks:List Nat} (h:kindsOf P (f::fs) i=some ks):f.offset=i/\f.name≠ "_" /\∃ k ks',ks=k::ks'/\yK P k f.type/\kindsOf P fs (i+1)=some ks':=by
 simp only [kindsOf] at h
 split at h
 ·rename_i hc
  refine ⟨hc.1,hc.2,?_⟩
  split at h
  ·rename_i q ks' hu hks
   simp only [Option.some.injEq] at h
   exact ⟨0,ks',h.symm,.inl ⟨rfl,q,hu⟩,hks⟩
  ·rename_i ks' hu hks
   simp only [Option.some.injEq] at h
   exact ⟨1,ks',h.symm,.inr (.inl ⟨rfl,hu⟩),hks⟩
  ·rename_i ks' hu hks
   simp only [Option.some.injEq] at h
   exact ⟨2,ks',h.symm,.inr (.inr ⟨rfl,hu⟩),hks⟩
  ·cases h
 ·cases h
theorem yK.plain {k:Nat} {ty:TypeId} (h:yK P k ty):(∃ q,P.underlying ty=some (.int q))\/P.underlying ty=some .string\/P.underlying ty=some .bool:=h.imp (·.2) fun h=>h.imp (·.2) (·.2)
theorem MK:∀ {fs:List Field} {i:Nat} {ks:List Nat} {us vs:List Value} {b:Bool} {d:Nat} {xs ys:Array Value},kindsOf P fs i=some ks->gP P w ks us vs b->
  (∀ j v,us[j]? =some v->xs[i+j]? =some v)->(∀ j v,vs[j]? =some v->ys[i+j]? =some v)->(Op.eqFields (d+1) xs ys fs).run P w= .ok b w
 |[],i,ks,us,vs,b,d,xs,ys,hk,he,_,_=>by
  simp only [kindsOf,Option.some.injEq] at hk;subst hk
  cases us<;>cases vs<;>simp [gP] at he
  subst he;rfl
 |f::fs,i,ks,us,vs,b,d,xs,ys,hk,he,hx,hy=>by
  obtain ⟨h1,h2,k,ks',rfl,h3,h4⟩:=aeT hk
  cases us with
  |nil=>simp [gP] at he
  |cons u us=>
   cases vs with
   |nil=>simp [gP] at he
   |cons v vs=>
    obtain ⟨b1,b2,rfl,g1,g2⟩:=he
    have ih:=MK (d:=d) h4 g2 (fun j v hj=>by rw [show i+1+j=i+(j+1) from by omega];exact hx (j+1) v (by simpa using hj)) (fun j v hj=>by rw [show i+1+j=i+(j+1) from by omega];exact hy (j+1) v (by simpa using hj))
    have hxi:xs[i]? =some u:=hx 0 u rfl
    have hyi:ys[i]? =some v:=hy 0 v rfl
    simp only [Op.eqFields,h1,h2,ne_eq,not_false_eq_true,if_true,Sem.run_bind,DR h3.plain hxi,DR h3.plain hyi,Result.andThen_ok,g1 d f.type h3,Sem.run_ite]
    cases b1
    ·simp
    ·simp [ih]
theorem aeU {ty:TypeId} {gs:Array Field} {cs:Array Value} {off n:Nat} (hu:P.underlying ty=some (.struct gs)) (hn:sizeP P ty=some n) (w:World):(part ty cs off).run P w= .ok (.agg (cs.extract off (off+n))) w:=by
 have ha:aggP P ty=some true:=by unfold aggP;rw [hu]
 simp only [part,Sem.run_bind,jR ha,Result.andThen_ok,if_true,cu hn,Sem.run_pure]
theorem DT:∀ {fs:List Field} {i:Nat} {ks:List Nat} {us vs:List Value} {b:Bool} {d:Nat} {xs ys:Array Value},kinds2 P fs i=some ks->gP P w ks us vs b->
  (∀ j v,us[j]? =some v->xs[i+j]? =some v)->(∀ j v,vs[j]? =some v->ys[i+j]? =some v)->(Op.eqFields (d+2) xs ys fs).run P w= .ok b w
 |[],i,ks,us,vs,b,d,xs,ys,hk,he,_,_=>by
  simp only [kinds2,Option.some.injEq] at hk;subst hk
  cases us<;>cases vs<;>simp [gP] at he
  subst he;rfl
 |f::fs,i,ks,us,vs,b,d,xs,ys,hk,he,hx,hy=>by
  have plain:∀ k,yK P k f.type->f.offset=i->f.name≠ "_" ->(kinds2 P fs (i+1)).map (k::·)=some ks->(Op.eqFields (d+2) xs ys (f::fs)).run P w= .ok b w:=by
   intro k h3 h1 h2 hm
   cases h4:kinds2 P fs (i+1) with
   |none=>rw [h4] at hm;cases hm
   |some ks'=>
    rw [h4] at hm
    simp only [Option.map_some,Option.some.injEq] at hm;subst hm
    cases us with
    |nil=>simp [gP] at he
    |cons u us=>
     cases vs with
     |nil=>simp [gP] at he
     |cons v vs=>
      obtain ⟨b1,b2,rfl,g1,g2⟩:=he
      have ih:=DT (d:=d) h4 g2 (fun j v hj=>by rw [show i+1+j=i+(j+1) from by omega];exact hx (j+1) v (by simpa using hj)) (fun j v hj=>by rw [show i+1+j=i+(j+1) from by omega];exact hy (j+1) v (by simpa using hj))
      have hxi:xs[i]? =some u:=hx 0 u rfl
      have hyi:ys[i]? =some v:=hy 0 v rfl
      simp only [Op.eqFields,h1,h2,ne_eq,not_false_eq_true,if_true,Sem.run_bind,DR h3.plain hxi,DR h3.plain hyi,Result.andThen_ok,g1 (d+1) f.type h3,Sem.run_ite]
      cases b1
      ·simp
      ·simp [ih]
  simp only [kinds2] at hk
  split at hk
  ·rename_i hc
   split at hk
   ·rename_i q hu;exact plain 0 (.inl ⟨rfl,q,hu⟩) hc.1 hc.2 hk
   ·rename_i hu;exact plain 1 (.inr (.inl ⟨rfl,hu⟩)) hc.1 hc.2 hk
   ·rename_i hu;exact plain 2 (.inr (.inr ⟨rfl,hu⟩)) hc.1 hc.2 hk
   ·rename_i gs hu
    split at hk
    ·rename_i k1 hk1
     split at hk
     ·rename_i hs
      cases h4:kinds2 P fs (i+k1.length) with
      |none=>rw [h4] at hk;cases hk
      |some ks'=>
       rw [h4] at hk
       simp only [Option.map_some,Option.some.injEq] at hk;subst hk
       have hl:=he.len
       rw [List.length_append] at hl
       obtain ⟨b1,b2,rfl,g1,g2⟩:=he.split
       have hgx:∀ (zs:List Value) (as:Array Value),k1.length<=zs.length->(∀ j v,zs[j]? =some v->as[i+j]? =some v)->∀ j v,(zs.take k1.length)[j]? =some v->(as.extract i (i+k1.length))[0+j]? =some v:=by
        intro zs as hzl hz j v hj
        have hj1:j<k1.length:=by
         have:=(List.getElem?_eq_some_iff.1 hj).1
         simp at this;omega
        rw [List.getElem?_take_of_lt hj1] at hj
        have h5:=hz j v hj
        rw [Nat.zero_add,Array.getElem?_extract]
        have:i+j<as.size:=(Array.getElem?_eq_some_iff.1 h5).1
        rw [if_pos (by omega)];exact h5
       have ih:=DT (d:=d) h4 g2 (fun j v hj=>by rw [List.getElem?_drop] at hj;rw [Nat.add_assoc];exact hx _ v hj) (fun j v hj=>by rw [List.getElem?_drop] at hj;rw [Nat.add_assoc];exact hy _ v hj)
       have in1:=MK (d:=d) hk1 g1 (hgx us xs (by omega) hx) (hgx vs ys (by omega) hy)
       have hfo:P.fieldsOf f.type=gs:=by unfold Program.fieldsOf;rw [hu]
       have heq:(Op.equalIn (d+2) f.type (.agg (xs.extract i (i+k1.length))) (.agg (ys.extract i (i+k1.length)))).run P w= .ok b1 w:=by
        rw [run_equalIn_struct w (d+1) f.type _ _ (by rw [hfo];exact hu) hs.1,hfo];exact in1
       simp only [Op.eqFields,hc.1,hc.2,ne_eq,not_false_eq_true,if_true,Sem.run_bind,aeU hu hs.2,Result.andThen_ok,heq,Sem.run_ite]
       cases b1
       ·simp
       ·simp [ih]
     ·cases hk
    ·cases hk
   ·cases hk
  ·cases hk
end
theorem ML (w:World):∀ (ks:List Nat) (as bs:List AV) (us vs:List Value) (r:Bool),l6 ks as bs=some r->as.length=us.length->bs.length=vs.length->
  (∀ (j:Nat) (c:AV) (v:Value),as[j]? =some c->us[j]? =some v->VR w (ay C ρ w) ρ U c v)->(∀ (j:Nat) (c:AV) (v:Value),bs[j]? =some c->vs[j]? =some v->VR w (ay C ρ w) ρ U c v)->gP P w ks us vs r
 |ks,as,bs,us,vs,r,hr,hla,hlb,ha,hb=>by
  have step:∀ (k:Nat) (ks':List Nat) (a b:Value) (as' bs':List AV) (q r':Bool),ks=k::ks'->as= .v a::as'->bs= .v b::bs'->l6 ks' as' bs'=some r'->r=(q&&r')->(∀ d ty,yK P k ty->(Op.equalIn (d+1) ty a b).run P w= .ok q w)->gP P w ks us vs r:=by
   intro k ks' a b as' bs' q r' hks hea heb hre hrr heq
   subst hks;subst hea;subst heb;subst hrr
   cases us with
   |nil=>simp at hla
   |cons u us=>
    cases vs with
    |nil=>simp at hlb
    |cons v vs=>
     have hu:=(ha 0 (.v a) u rfl rfl).bA
     have hv:=(hb 0 (.v b) v rfl rfl).bA
     subst hu;subst hv
     exact ⟨q,r',rfl,heq,ML w ks' as' bs' us vs r' hre (by simpa using hla) (by simpa using hlb) (fun j c v h1 h2=>ha (j+1) c v (by simpa using h1) (by simpa using h2)) (fun j c v h1 h2=>hb (j+1) c v (by simpa using h1) (by simpa using h2))⟩
  unfold l6 at hr
  split at hr
  ·simp only [Option.some.injEq] at hr;subst hr
   cases us with
   |cons u us=>simp at hla
   |nil=>cases vs with
    |cons v vs=>simp at hlb
    |nil=>rfl
  ·rename_i k a l k' b l'
   split at hr
   ·rename_i hkk
    subst hkk
    split at hr
    ·rename_i r' hr'
     simp only [Option.some.injEq] at hr
     refine step 0 _ _ _ _ _ _ r' rfl rfl rfl hr' hr.symm fun d ty hk=> ?_
     rcases hk with ⟨_,q,hu⟩|⟨h0,_⟩|⟨h0,_⟩
     ·have:=run_equalIn_int (P:=P) w d ty k q a b hu
      exact this
     ·omega
     ·omega
    ·cases hr
   ·cases hr
  ·rename_i a l b l'
   split at hr
   ·rename_i r' hr'
    simp only [Option.some.injEq] at hr
    refine step 1 _ _ _ _ _ _ r' rfl rfl rfl hr' hr.symm fun d ty hk=> ?_
    rcases hk with ⟨h0,_⟩|⟨_,hu⟩|⟨h0,_⟩
    ·omega
    ·exact run_equalIn_string w d ty a b hu
    ·omega
   ·cases hr
  ·rename_i a l b l'
   split at hr
   ·rename_i r' hr'
    simp only [Option.some.injEq] at hr
    refine step 2 _ _ _ _ _ _ r' rfl rfl rfl hr' hr.symm fun d ty hk=> ?_
    rcases hk with ⟨h0,_⟩|⟨h0,_⟩|⟨_,hu⟩
    ·omega
    ·omega
    ·exact run_equalIn_bool' w d ty a b hu
   ·cases hr
  ·cases hr
termination_by ks=>ks.length
decreasing_by all_goals (simp_all)
theorem MN (hr:HR C ρ U h w) (ht:Tm C ρ U w t a) {neg:Bool} {ty ty':TypeId} {fs:Array Field} {ks:List Nat} {x y:Operand} (h1:P.underlying ty=some (.struct fs)) (hk:kinds2 P fs.toList 0=some ks)
  (hs:P.stoodInHeld ty=false) (hg:P.eqGuardType P.depth ty=false)
  (ho:o.op= .binOp (if neg then .neq else .eql) ty x y ty') (he:av nm t h (.eqs neg ks x y)=some e):
  Run C ρ U h w nm ((execOp a.eval o).run P w) e:=by
 simp only [av] at he
 split at he
 ·rename_i as bs hx hy
  obtain ⟨us,hu,hvu⟩:=(aL ht hx).yA
  obtain ⟨vs,hv,hvv⟩:=(aL ht hy).yA
  split at he
  ·rename_i r hr'
   simp only [E.ok,Option.some.injEq] at he;subst he
   have hfo:P.fieldsOf ty=fs:=by unfold Program.fieldsOf;rw [h1]
   have hC:=ML (P:=P) (C:=C) (ρ:=ρ) (U:=U) w ks as bs us.toList vs.toList r hr' (by have:=hvu.1;simpa using this) (by have:=hvv.1;simpa using this) (fun j c v h1 h2=>hvu.2 j c v h1 (by simpa using h2)) (fun j c v h1 h2=>hvv.2 j c v h1 (by simpa using h2))
   have hrun:=DT (d:=9997) (xs:=us) (ys:=vs) hk hC (fun j v hj=>by simpa using hj) (fun j v hj=>by simpa using hj)
   have heq:(Op.equalIn 10000 ty (.agg us) (.agg vs)).run P w= .ok r w:=by
    rw [run_equalIn_struct w 9999 ty us vs (by rw [hfo];exact h1) hs,hfo]
    exact hrun
   cases neg
   ·simp only [Bool.false_eq_true,if_false] at ho ⊢
    simp only [execOp,ho,hu,hv,Sem.run_bind,run_eqGuard_agg w _ ty x y us vs hg,Result.andThen_ok,run_eql_struct,heq,Sem.run_pure]
    exact .same hr (.p (.v _)) True
   ·simp only [if_true] at ho ⊢
    simp only [execOp,ho,hu,hv,Sem.run_bind,run_eqGuard_agg w _ ty x y us vs hg,Result.andThen_ok,run_neq_struct,heq,Sem.run_pure]
    exact .same hr (.p (.v _)) True
  ·cases he
 ·cases he
theorem Hw (hr:HR C ρ U h w) (hn:¬ U nm) {el sz n:Nat} {xs:List (List AV)} {cells:Array Value} {r:Result Next} (hsz:cells.size=xs.length*sz) (hn':n=xs.length)
  (hel:∀ (k:Nat) (x:List AV),xs[k]? =some x->x.length=sz)
  (hrel:∀ (k:Nat) (x:List AV) (j:Nat) (c:AV),xs[k]? =some x->x[j]? =some c->∃ q,cells[k*sz+j]? =some q/\q.oneCell'=true/\VP w (ay C ρ w) c q)
  (hrun:r= .ok (.value (.slice (some ⟨w.heap.size,0,none⟩) n n)) (w.alloc (.cells cells el))) (p:Prop):Run C ρ U h w nm r ⟨p,.own nm sz 0 n,[(nm,.row el sz xs)]⟩:=by
 subst hn'
 have hm:=G6 (C:=C) (ρ:=ρ) (U:=U) (h:=h) hr hn (.cells cells el) (l:= .at w.heap.size 0 (xs.length*sz)) (.inr ⟨0,_,rfl⟩)
 refine Run.moved hr hm (fun ⟨cs,hcs⟩=>absurd (hr.hp _ _ hcs).1 hn) ?_ (.inl hrun) (.own (.inr rfl) ?_) (.inr rfl) p
 ·refine .inr ⟨w.heap.size,0,xs.length*sz,cells,rfl,heap_alloc_new w _,by omega,Nat.le_refl _,hel,fun k x j c hk hj=> ?_⟩
  obtain ⟨q,h1,h2,h3⟩:=hrel k x j c hk hj
  exact ⟨q,by rw [Nat.zero_add];exact h1,h2,hm.vp h3⟩
 ·simp only [up,if_true]
  exact ⟨⟨_,_,_,rfl⟩,.inr ⟨xs.length,Nat.le_refl _,by simp,by simp⟩⟩
theorem DU {ok:Nat->Prop} {zs:List Value} {sz n:Nat} {cells:Array Value} (hz:zs.length=sz) (hone:zs.all Value.oneCell'=true)
  (hc:∀ k j,k<n->j<sz->cells[k*sz+j]? =zs[j]?):∀ (k:Nat) (x:List AV) (j:Nat) (c:AV),(List.replicate n (zs.map AV.v))[k]? =some x->x[j]? =some c->∃ q,cells[k*sz+j]? =some q/\q.oneCell'=true/\VP w ok c q:=by
 intro k x j c hk hj
 rw [List.getElem?_replicate] at hk
 split at hk
 ·rename_i hkn
  cases hk
  rw [List.getElem?_map,Option.map_eq_some_iff] at hj
  obtain ⟨q,hq,rfl⟩:=hj
  have hjl:j<sz:=by rw [<-hz];exact (List.getElem?_eq_some_iff.1 hq).1
  exact ⟨q,by rw [hc k j hkn hjl];exact hq,List.all_eq_true.1 hone q (List.mem_iff_getElem?.2 ⟨j,hq⟩),.v q⟩
 ·cases hk
theorem yL {z:Array Value} {sz n k j:Nat} (hz:z.size=sz) (hk:k<n) (hj:j<sz):(madeCells z (n*sz))[k*sz+j]? =z.toList[j]? :=by
 have hlt:k*sz+j<n*sz:=by
  have:(k+1)*sz<=n*sz:=Nat.mul_le_mul_right _ hk
  rw [Nat.add_mul,Nat.one_mul] at this
  omega
 have hjz:j<z.size:=by omega
 have h1:=(He (k:=k) hj).2
 simp only [madeCells,Array.getElem?_map]
 rw [Array.getElem?_range,if_pos hlt]
 simp only [Option.map_some,hz,h1,Array.getElem?_toList]
 rw [Array.getElem?_eq_getElem hjz,getElem!_pos z j hjz]
theorem aeY (hr:HR C ρ U h w) (ht:Tm C ρ U w t a) (hn:¬ U nm) {ty el sz aP:Nat} {zs:List Value} {l c:Operand} (hE:El P ty el sz aP zs) (hone:zs.all Value.oneCell'=true)
  (ho:o.op= .makeSlice ty l c) (he:av nm t h (.lX el sz aP zs l c)=some e) (hp:e.pre):Run C ρ U h w nm ((execOp a.eval o).run P w) e:=by
 obtain ⟨i,z,hi,hiz,his,hib,hzc,hzl⟩:=hE.info
 simp only [av] at he
 split at he
 ·rename_i k n k' m hl hc
  have e1:=(aL ht hl).bA
  have e2:=(aL ht hc).bA
  simp only [Option.some.injEq] at he;subst he
  obtain ⟨h0,rfl,hb,h63⟩:=hp
  have hrun:=run_make (P:=P) w ty el i z hE.und hi hiz k k' n n h0 (Int.le_refl _) (by rw [hib,Int.mul_comm];omega) h63
  refine Hw (cells:=madeCells z.cells (n.toNat*i.size)) hr hn (by rw [size_madeCells,his];simp) (by simp) (fun k x hx=> ?_) (DU hE.zl hone (fun k j hk hj=> ?_)) ?_ _
  ·rw [List.getElem?_replicate] at hx
   split at hx
   ·cases hx;simp [hE.zl]
   ·cases hx
  ·rw [his,yL hzc hk hj,hzl]
  ·simp only [execOp,ho,e1,e2,Sem.run_bind,hrun,Result.andThen_ok,Sem.run_pure]
 ·cases he
theorem aeZ (hr:HR C ρ U h w) (hn:¬ U nm) {ty:TypeId} (ho:o.op= .makeMap ty none) (he:av nm t h .oN=some e):Run C ρ U h w nm ((execOp a.eval o).run P w) e:=by
 simp only [av,Option.some.injEq] at he;subst he
 have hm:Moved C ρ U h w nm (.at w.heap.size 0 0) (w.alloc (.map #[] 0)):=G6 hr hn _ (.inr ⟨0,0,rfl⟩)
 refine Run.moved (ob:= .map []) (v:= .map (some w.heap.size)) hr hm (fun ⟨cs,hcs⟩=>absurd (hr.hp _ _ hcs).1 hn) ⟨w.heap.size,#[],0,rfl,heap_alloc_new w _,rfl,by simp⟩ (.inl ?_) (.mp _ (.inr rfl) fun g o n hl=> ?_) (.inr rfl) True
 ·simp [execOp,ho,Instr.makeMap]
 ·simp only [up,if_true] at hl
  cases hl;rfl
theorem Hy {Rl:AV->Value->Prop} (kk:IntKind) (q:IntKind) (n:Int):∀ (es:List (Value×AV)) (aH:List MapEntry) (i0:Nat) (r:Option AV),uw es q n=some r->es.length=aH.length->
  (∀ (i:Nat) (k:Value) (c:AV) (m:MapEntry),es[i]? =some (k,c)->aH[i]? =some m->m.key=k/\Rl c m.val)->
  (r=none/\Instr.findNow (.int kk) (.int q n) aH i0=some none)\/(∃ x i m,r=some x/\es[i]? =some (.int q n,x)/\aH[i]? =some m/\m.key= .int q n/\Rl x m.val/\Instr.findNow (.int kk) (.int q n) aH i0=some (some (i0+i,m.val)))
 |[],[],i0,r,hl,_,_=>by simp only [uw,Option.some.injEq] at hl;subst hl;exact .inl ⟨rfl,rfl⟩
 |(k,x)::es,m::aH,i0,r,hl,hlen,hrel=>by
  obtain ⟨hk,hx⟩:=hrel 0 k x m rfl rfl
  cases k with
  |int q' n'=>
   simp only [uw] at hl
   split at hl
   ·rename_i hq
    subst hq
    split at hl
    ·rename_i hnn
     subst hnn
     simp only [Option.some.injEq] at hl;subst hl
     refine .inr ⟨x,0,m,rfl,rfl,rfl,hk,hx,?_⟩
     simp [Instr.findNow,hk,Instr.sameNow]
    ·rename_i hnn
     have hb:(n==n')=false:=by simp [hnn]
     rcases Hy kk q n es aH (i0+1) r hl (by simpa using hlen) (fun i k c m h1 h2=>hrel (i+1) k c m (by simpa using h1) (by simpa using h2)) with ⟨h1,h2⟩|⟨y,i,m',h1,h2,h3,h4,h5,h6⟩
     ·exact .inl ⟨h1,by simp [Instr.findNow,hk,Instr.sameNow,hb,h2]⟩
     ·refine .inr ⟨y,i+1,m',h1,by simpa using h2,by simpa using h3,h4,h5,?_⟩
      simp [Instr.findNow,hk,Instr.sameNow,hb,h6]
      omega
   ·cases hl
  |_=>simp [uw] at hl
 |[],_::_,_,_,_,hlen,_=>by simp at hlen
 |_::_,[],_,_,_,hlen,_=>by simp at hlen
theorem DV (hr:HR C ρ U h w) {b:Nat} {es:List (Value×AV)} (hb:get h b=some (.map es)):∃ g aH clock,ρ b= .at g 0 0/\w.heap[g]? =some (.map aH clock)/\aH.size=es.length/\
 ∀ (i:Nat) (k:Value) (c:AV) (m:MapEntry),es[i]? =some (k,c)->aH[i]? =some m->m.key=k/\VR w (ay C ρ w) ρ U c m.val:=(hr.hp b _ hb).2
theorem ae0 {kt:TypeId} {q:IntKind} {kk:IntKind} {n:Int} (hk:P.underlying kt=some (.int kk)) (b:Bool) (N:Nat) (w:World):(Instr.checkKey b (N+1) kt (.int q n)).run P w= .ok () w:=by
 simp [Instr.checkKey,run_underlying hk]
theorem run_checkKey {kt:TypeId} {q:IntKind} {kk:IntKind} {n:Int} (hk:P.underlying kt=some (.int kk)) (b:Bool) (w:World):(Instr.checkKey b 10000 kt (.int q n)).run P w= .ok () w:=ae0 hk b 9999 w
theorem qp {g:Nat} {aH:Array MapEntry} {clock:Nat} (hg:w.heap[g]? =some (.map aH clock)):(getObj g).run P w= .ok (.map aH clock) w:=by
 simp [getObj,Sem.run,hg]
theorem ae1 (hr:HR C ρ U h w) (ht:Tm C ρ U w t a) {ty kt et:TypeId} {kk:IntKind} {z:Value} {m k:Operand} (h1:P.underlying ty=some (.map kt et)) (h2:P.underlying kt=some (.int kk))
  (hza:∃ i,P.info? et=some i/\i.zero=some z) (ho:o.op= .lookup ty m k false) (he:av nm t h (.look z m k)=some e):Run C ρ U h w nm ((execOp a.eval o).run P w) e:=by
 simp only [av] at he
 split at he
 ·rename_i b q n hm hk
  obtain ⟨hu,r,hmr,wI⟩:=(aL ht hm).Dx
  have hkv:=(aL ht hk).bA
  split at he
  ·rename_i es hb
   split at he
   ·rename_i r' hl
    simp only [E.ok,Option.some.injEq] at he;subst he
    obtain ⟨g,aH,clock,hloc,hg,hsz,hrel⟩:=DV hr hb
    have:=wI g 0 0 hloc
    subst this
    have hF:=Hy (Rl:=VR w (ay C ρ w) ρ U) kk q n es aH.toList 0 r' hl (by simpa using hsz.symm) (fun i k c m h1 h2=>hrel i k c m h1 (by simpa using h2))
    obtain ⟨i,hi,hiz⟩:=hza
    have pre:∀ res,Instr.findNow (.int kk) (.int q n) aH.toList 0=some res->(execOp a.eval o).run P w= .ok (.value (match res with|some (_,v)=>v|none=>z)) w:=by
     intro res hres
     simp only [execOp,ho,hmr,hkv,Instr.lookup,Sem.run_bind,run_underlying h1,Result.andThen_ok,qp hg,Sem.run_pure,run_checkKey h2,Instr.findKey,run_underlying h2,hres]
     cases res with
     |none=>simp [zeroValue,typeInfo,hi,hiz]
     |some p=>simp
    rcases hF with ⟨rfl,hf⟩|⟨x,i',m',rfl,_,_,_,hvp,hf⟩
    ·rw [pre _ hf]
     exact .same hr (.p (.v _)) True
    ·rw [pre _ hf]
     exact .same hr hvp True
   ·cases he
  ·cases he
 ·cases he
theorem ae2 (hr:HR C ρ U h w) (ht:Tm C ρ U w t a) {ty kt et:TypeId} {kk:IntKind} {z:Value} {m k:Operand} (h1:P.underlying ty=some (.map kt et)) (h2:P.underlying kt=some (.int kk))
  (hza:∃ i,P.info? et=some i/\i.zero=some z) (ho:o.op= .lookup ty m k true) (he:av nm t h (.um z m k)=some e):Run C ρ U h w nm ((execOp a.eval o).run P w) e:=by
 simp only [av] at he
 split at he
 ·rename_i b q n hm hk
  obtain ⟨hu,r,hmr,wI⟩:=(aL ht hm).Dx
  have hkv:=(aL ht hk).bA
  split at he
  ·rename_i es hb
   split at he
   ·rename_i r' hl
    simp only [E.ok,Option.some.injEq] at he;subst he
    obtain ⟨g,aH,clock,hloc,hg,hsz,hrel⟩:=DV hr hb
    have:=wI g 0 0 hloc
    subst this
    have hF:=Hy (Rl:=VR w (ay C ρ w) ρ U) kk q n es aH.toList 0 r' hl (by simpa using hsz.symm) (fun i k c m h1 h2=>hrel i k c m h1 (by simpa using h2))
    obtain ⟨i,hi,hiz⟩:=hza
    have pre:∀ res,Instr.findNow (.int kk) (.int q n) aH.toList 0=some res->(execOp a.eval o).run P w= .ok (.value (.tuple #[(match res with|some (_,v)=>v|none=>z),.bool res.isSome])) w:=by
     intro res hres
     simp only [execOp,ho,hmr,hkv,Instr.lookup,Sem.run_bind,run_underlying h1,Result.andThen_ok,qp hg,Sem.run_pure,run_checkKey h2,Instr.findKey,run_underlying h2,hres]
     cases res with
     |none=>simp [zeroValue,typeInfo,hi,hiz]
     |some p=>simp
    rcases hF with ⟨rfl,hf⟩|⟨x,i',m',rfl,_,_,_,hvp,hf⟩
    ·rw [pre _ hf]
     exact .same hr (.aT rfl fun i c u h1 h2=>by
      match i with
      |0=>simp at h1 h2;subst h1 h2;exact .p (.v _)
      |1=>simp at h1 h2;subst h1 h2;exact .p (.v _)
      |i+2=>simp at h1) True
    ·rw [pre _ hf]
     exact .same hr (.aT rfl fun i c u h1 h2=>by
      match i with
      |0=>simp at h1 h2;subst h1 h2;exact hvp
      |1=>simp at h1 h2;subst h1 h2;exact .p (.v _)
      |i+2=>simp at h1) True
   ·cases he
  ·cases he
 ·cases he
theorem Hz {Rl:AV->Value->Prop} (kk q:IntKind) (n:Int) (y:AV) (v:Value) (hy:Rl y v):∀ (es:List (Value×AV)) (aH:List MapEntry) (i0:Nat) (es':List (Value×AV)),wE es q n y=some es'->es.length=aH.length->
  (∀ (i:Nat) (k:Value) (c:AV) (m:MapEntry),es[i]? =some (k,c)->aH[i]? =some m->m.key=k/\Rl c m.val)->
  (es'=es++[(.int q n,y)]/\Instr.findNow (.int kk) (.int q n) aH i0=some none)\/
  (∃ i m,i<es.length/\es'=es.set i (.int q n,y)/\aH[i]? =some m/\m.key= .int q n/\Instr.findNow (.int kk) (.int q n) aH i0=some (some (i0+i,m.val)))
 |[],[],i0,es',hl,_,_=>by simp only [wE,Option.some.injEq] at hl;subst hl;exact .inl ⟨rfl,rfl⟩
 |(k,x)::es,m::aH,i0,es',hl,hlen,hrel=>by
  obtain ⟨hk,hx⟩:=hrel 0 k x m rfl rfl
  cases k with
  |int q' n'=>
   simp only [wE] at hl
   split at hl
   ·rename_i hq
    subst hq
    split at hl
    ·rename_i hnn
     subst hnn
     simp only [Option.some.injEq] at hl;subst hl
     refine .inr ⟨0,m,by simp,rfl,rfl,hk,?_⟩
     simp [Instr.findNow,hk,Instr.sameNow]
    ·rename_i hnn
     split at hl
     ·rename_i r hr
      simp only [Option.some.injEq] at hl;subst hl
      have hb:(n==n')=false:=by simp [hnn]
      rcases Hz kk q n y v hy es aH (i0+1) r hr (by simpa using hlen) (fun i k c m h1 h2=>hrel (i+1) k c m (by simpa using h1) (by simpa using h2)) with ⟨h1,h2⟩|⟨i,m',h1,h2,h3,h4,h5⟩
      ·exact .inl ⟨by rw [h1];rfl,by simp [Instr.findNow,hk,Instr.sameNow,hb,h2]⟩
      ·refine .inr ⟨i+1,m',by simp;omega,by rw [h2];rfl,by simpa using h3,h4,?_⟩
       simp [Instr.findNow,hk,Instr.sameNow,hb,h5]
       omega
     ·cases hl
   ·cases hl
  |_=>simp [wE] at hl
 |[],_::_,_,_,_,hlen,_=>by simp at hlen
 |_::_,[],_,_,_,hlen,_=>by simp at hlen
theorem ae3 (hr:HR C ρ U h w) (ht:Tm C ρ U w t a) {ty kt et:TypeId} {kk:IntKind} {m k x:Operand} (h1:P.underlying ty=some (.map kt et)) (h2:P.underlying kt=some (.int kk))
  (ho:o.op= .mapUpdate ty m k x) (he:av nm t h (.jO m k x)=some e):Run C ρ U h w nm ((execOp a.eval o).run P w) e:=by
 simp only [av] at he
 split at he
 ·rename_i b q n y hm hk hx
  obtain ⟨hu,r,hmr,wI⟩:=(aL ht hm).Dx
  have hkv:=(aL ht hk).bA
  have hxv:=aL ht hx
  split at he
  ·rename_i es hb
   ·split at he
    ·rename_i es' hput
     simp only [Option.some.injEq] at he;subst he
     obtain ⟨g,aH,clock,hloc,hg,hsz,hrel⟩:=DV hr hb
     have:=wI g 0 0 hloc
     subst this
     have hvp:=hxv
     have hF:=Hz (Rl:=VR w (ay C ρ w) ρ U) kk q n y (a.eval x) hvp es aH.toList 0 es' hput (by simpa using hsz.symm) (fun i k c m h1 h2=>hrel i k c m h1 (by simpa using h2))
     have wJ:g<w.heap.size:=(hr.bE g ⟨b,0,0,hloc⟩).2
     have set:∀ gm clock',(setObj g (.map gm clock')).run P w= .ok () {w with heap:=w.heap.setIfInBounds g (.map gm clock')}:=by
      intro gm clock'
      simp [setObj,Sem.run,hg]
     have moved:∀ gm clock',Moved C ρ U h w b (.at g 0 0) {w with heap:=w.heap.setIfInBounds g (.map gm clock')}:=by
      intro gm clock'
      refine ⟨rfl,rfl,rfl,by simp,fun k' hk' hkb=> ?_,.inl ⟨hu,hloc.symm⟩⟩
      have hne:¬ g=k':=fun e=>hkb 0 0 (by rw [<-e];exact hloc)
      simp [Array.getElem?_setIfInBounds,hne]
     rcases hF with ⟨rfl,hf⟩|⟨i,m',hi,rfl,hm',hmk,hf⟩
     ·have hm1:=moved (aH.push {key:= .int q n,val:=a.eval x,born:=clock}) (clock+1)
      refine Run.moved (ob:= .map (es++[(.int q n,y)])) hr hm1 (fun ⟨cs,hcs⟩=>by rw [hb] at hcs;cases hcs) ⟨g,aH.push {key:= .int q n,val:=a.eval x,born:=clock},clock+1,rfl,by simp [wJ],by simp [hsz],fun i k c m hi hm=> ?_⟩ (.inr ⟨rfl,?_⟩) (.p (.v _)) (.inl hu) True
      ·rw [Array.getElem?_push] at hm
       rw [List.getElem?_append] at hi
       split at hm
       ·rename_i heq
        rw [if_neg (by omega)] at hi
        have h0:i - es.length=0:=by omega
        rw [h0] at hi
        simp at hi hm
        obtain ⟨rfl,rfl⟩:=hi
        subst hm
        exact ⟨rfl,hm1.vr hvp⟩
       ·rename_i hne
        have hlt:=(Array.getElem?_eq_some_iff.1 hm).1
        rw [if_pos (by omega)] at hi
        exact ⟨(hrel i k c m hi hm).1,hm1.vr (hrel i k c m hi hm).2⟩
      ·simp only [execOp,ho,hmr,hkv,Instr.mapUpdate,Sem.run_bind,run_underlying h1,Result.andThen_ok,qp hg,run_checkKey h2,Instr.findKey,run_underlying h2,hf,Sem.run_pure,set]
     ·have hm1:=moved (aH.modify i fun e=>{e with key:= .int q n,val:=a.eval x}) clock
      have wK:aH[i]? =some m':=by simpa using hm'
      refine Run.moved (ob:= .map (es.set i (.int q n,y))) hr hm1 (fun ⟨cs,hcs⟩=>by rw [hb] at hcs;cases hcs) ⟨g,aH.modify i fun e=>{e with key:= .int q n,val:=a.eval x},clock,rfl,by simp [wJ],by simp [hsz],fun j k c m hj hm=> ?_⟩ (.inr ⟨rfl,?_⟩) (.p (.v _)) (.inl hu) True
      ·rw [Array.getElem?_modify] at hm
       by_cases hji:i=j
       ·subst hji
        rw [if_pos rfl,wK] at hm
        rw [List.getElem?_set_self hi] at hj
        simp at hj hm
        obtain ⟨rfl,rfl⟩:=hj
        subst hm
        exact ⟨rfl,hm1.vr hvp⟩
       ·rw [if_neg hji] at hm
        rw [List.getElem?_set_ne hji] at hj
        exact ⟨(hrel j k c m hj hm).1,hm1.vr (hrel j k c m hj hm).2⟩
      ·have hkeep:(Instr.keyThatStays (.int q n) (.int q n)).run P w= .ok (.int q n) w:=by
        simp [Instr.keyThatStays,Instr.sameBits]
       simp only [execOp,ho,hmr,hkv,Instr.mapUpdate,Sem.run_bind,run_underlying h1,Result.andThen_ok,qp hg,run_checkKey h2,Instr.findKey,run_underlying h2,hf,Sem.run_pure,Nat.zero_add,wK,Option.map_some,Option.getD_some,hmk,hkeep,set]
    ·cases he
  ·cases he
 ·cases he
theorem ae4 (hr:HR C ρ U h w) (ht:Tm C ρ U w t a) {ty kt et:TypeId} {kk:IntKind} {m k x:Operand} (h1:P.underlying ty=some (.map kt et)) (h2:P.underlying kt=some (.int kk))
  (ho:o.op= .insert ty m k x) (he:av nm t h (.jO m k x)=some e):Run C ρ U h w nm ((execOp a.eval o).run P w) e:=by
 simp only [av] at he
 split at he
 ·rename_i b q n y hm hk hx
  obtain ⟨hu,r,hmr,wI⟩:=(aL ht hm).Dx
  have hkv:=(aL ht hk).bA
  have hxv:=aL ht hx
  split at he
  ·rename_i es hb
   ·split at he
    ·rename_i es' hput
     simp only [Option.some.injEq] at he;subst he
     obtain ⟨g,aH,clock,hloc,hg,hsz,hrel⟩:=DV hr hb
     have:=wI g 0 0 hloc
     subst this
     have hvp:=hxv
     have hF:=Hz (Rl:=VR w (ay C ρ w) ρ U) kk q n y (a.eval x) hvp es aH.toList 0 es' hput (by simpa using hsz.symm) (fun i k c m h1 h2=>hrel i k c m h1 (by simpa using h2))
     have wJ:g<w.heap.size:=(hr.bE g ⟨b,0,0,hloc⟩).2
     have set:∀ gm clock',(setObj g (.map gm clock')).run P w= .ok () {w with heap:=w.heap.setIfInBounds g (.map gm clock')}:=by
      intro gm clock'
      simp [setObj,Sem.run,hg]
     have moved:∀ gm clock',Moved C ρ U h w b (.at g 0 0) {w with heap:=w.heap.setIfInBounds g (.map gm clock')}:=by
      intro gm clock'
      refine ⟨rfl,rfl,rfl,by simp,fun k' hk' hkb=> ?_,.inl ⟨hu,hloc.symm⟩⟩
      have hne:¬ g=k':=fun e=>hkb 0 0 (by rw [<-e];exact hloc)
      simp [Array.getElem?_setIfInBounds,hne]
     rcases hF with ⟨rfl,hf⟩|⟨i,m',hi,rfl,hm',hmk,hf⟩
     ·have hm1:=moved (aH.push {key:= .int q n,val:=a.eval x,born:=clock}) (clock+1)
      refine Run.moved (ob:= .map (es++[(.int q n,y)])) hr hm1 (fun ⟨cs,hcs⟩=>by rw [hb] at hcs;cases hcs) ⟨g,aH.push {key:= .int q n,val:=a.eval x,born:=clock},clock+1,rfl,by simp [wJ],by simp [hsz],fun i k c m hi hm=> ?_⟩ (.inr ⟨rfl,?_⟩) (.p (.v _)) (.inl hu) True
      ·rw [Array.getElem?_push] at hm
       rw [List.getElem?_append] at hi
       split at hm
       ·rename_i heq
        rw [if_neg (by omega)] at hi
        have h0:i - es.length=0:=by omega
        rw [h0] at hi
        simp at hi hm
        obtain ⟨rfl,rfl⟩:=hi
        subst hm
        exact ⟨rfl,hm1.vr hvp⟩
       ·rename_i hne
        have hlt:=(Array.getElem?_eq_some_iff.1 hm).1
        rw [if_pos (by omega)] at hi
        exact ⟨(hrel i k c m hi hm).1,hm1.vr (hrel i k c m hi hm).2⟩
      ·simp only [execOp,ho,hmr,hkv,Instr.mapUpdate,Sem.run_bind,run_underlying h1,Result.andThen_ok,qp hg,run_checkKey h2,Instr.findKey,run_underlying h2,hf,Sem.run_pure,set]
     ·have hm1:=moved (aH.modify i fun e=>{e with key:= .int q n,val:=a.eval x}) clock
      have wK:aH[i]? =some m':=by simpa using hm'
      refine Run.moved (ob:= .map (es.set i (.int q n,y))) hr hm1 (fun ⟨cs,hcs⟩=>by rw [hb] at hcs;cases hcs) ⟨g,aH.modify i fun e=>{e with key:= .int q n,val:=a.eval x},clock,rfl,by simp [wJ],by simp [hsz],fun j k c m hj hm=> ?_⟩ (.inr ⟨rfl,?_⟩) (.p (.v _)) (.inl hu) True
      ·rw [Array.getElem?_modify] at hm
       by_cases hji:i=j
       ·subst hji
        rw [if_pos rfl,wK] at hm
        rw [List.getElem?_set_self hi] at hj
        simp at hj hm
        obtain ⟨rfl,rfl⟩:=hj
        subst hm
        exact ⟨rfl,hm1.vr hvp⟩
       ·rw [if_neg hji] at hm
        rw [List.getElem?_set_ne hji] at hj
        exact ⟨(hrel j k c m hj hm).1,hm1.vr (hrel j k c m hj hm).2⟩
      ·have hkeep:(Instr.keyThatStays (.int q n) (.int q n)).run P w= .ok (.int q n) w:=by
        simp [Instr.keyThatStays,Instr.sameBits]
       simp only [execOp,ho,hmr,hkv,Instr.mapUpdate,Sem.run_bind,run_underlying h1,Result.andThen_ok,qp hg,run_checkKey h2,Instr.findKey,run_underlying h2,hf,Sem.run_pure,Nat.zero_add,wK,Option.map_some,Option.getD_some,hmk,hkeep,set]
    ·cases he
  ·cases he
 ·cases he
end
end Go.Eng
