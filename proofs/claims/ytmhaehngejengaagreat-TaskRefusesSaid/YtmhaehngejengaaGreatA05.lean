/-
  Part of a proof: lemmas and definitions of this work.
  No condition.
-/
import Derived.Test.YtmhaehngejengaaGreatA04
set_option linter.all false
set_option maxRecDepth 100000
set_option maxHeartbeats 8000000
namespace Go.Eng
open Go
def Ey:fZ:= .block 999999 (.loop (.exit 999999))
def mark (p:List aC→Bool):fZ→fZ
 | .region ops d=>bif p ops then .seq Ey (.region ops d) else .region ops d
 | .seq a b=> .seq (mark p a) (mark p b)
 | .cond c x y=> .cond c (mark p x) (mark p y)
 | .block id c=> .block id (mark p c)
 | .loop c=> .loop (mark p c)
 |c=>c
section
variable {P:Program} {C:Ctx}
theorem ahf {p:List aC→Bool} (hm:P.follows .mixedOrders=true) (c:Code):∀ (sc:fZ),iR P c=some sc→kD C.nt sc=true→
 ∀ (Q:Exit→St→Prop) (K:Exit→Act→World→Prop) (s:St) (a:Act) (w:World),At C s a w→iZ P (mark p sc) Q s→
  (∀ e s' a' w',At C s' a' w'→Q e s'→K e a' w')→c.wp P K a w:=by
 induction c with
 |skip=>
  intro sc hs hok Q K s a w hA hw hK
  cases hs
  exact zB hm _ _ rfl hok Q K s a w hA hw hK
 |region id ops draw=>
  intro sc hs hok Q K s a w hA hw hK
  have hs0:=hs
  simp only [iR] at hs
  split at hs
  ·rename_i l hl
   cases hs
   simp only [mark] at hw
   cases hp:p l with
   |false=>
    rw [hp] at hw
    exact zB hm _ _ hs0 hok Q K s a w hA hw hK
   |true=>
    rw [hp] at hw
    obtain ⟨α,S,μ,a0,hW,hb⟩:=hw
    exact zB hm _ _ hs0 hok Q K (S a0) a w (hW.at hA) (hb a0) hK
  ·cases hs
 |seq x y zC ihy=>
  intro sc hs hok Q K s a w hA hw hK
  simp only [iR] at hs
  split at hs
  ·rename_i x' hx
   split at hs
   ·rename_i y' hy
    cases hs
    simp only [kD,Bool.and_eq_true] at hok
    refine wp_seq (zC x' hx hok.1 _ _ s a w hA hw fun e s' a' w' hA' hQ=> ?_)
    cases e with
    |normal=>exact ihy y' hy hok.2 Q K s' a' w' hA' hQ hK
    |exit i=>exact hK _ _ _ _ hA' hQ
    |goto l=>exact hK _ _ _ _ hA' hQ
    |ret=>exact hK _ _ _ _ hA' hQ
    |panic ch=>exact hK _ _ _ _ hA' hQ
    |outgrown=>exact hK _ _ _ _ hA' hQ
   ·cases hs
  ·cases hs
 |cond c x y zC ihy=>
  intro sc hs hok Q K s a w hA hw hK
  simp only [iR] at hs
  split at hs
  ·rename_i x' hx
   split at hs
   ·rename_i y' hy
    cases hs
    simp only [kD,Bool.and_eq_true] at hok
    simp only [mark,iZ] at hw
    unfold sJ at hw
    split at hw
    ·rename_i b hb
     have hA0:=hA
     obtain ⟨ρ,U,hS,hU⟩:=hA
     have hc:=(bM hS.tm hb).dQ
     exact wp_cond_split hc (fun hb=>zC x' hx hok.1 Q K s a w hA0 (hw.1 hb) hK) (fun hb=>ihy y' hy hok.2 Q K s a w hA0 (hw.2 hb) hK)
    ·exact hw.elim
    ·exact hw.elim
   ·cases hs
  ·cases hs
 |block id c ih=>
  intro sc hs hok Q K s a w hA hw hK
  simp only [iR] at hs
  split at hs
  ·rename_i c' hc
   cases hs
   simp only [kD] at hok
   refine wp_block (ih c' hc hok _ _ s a w hA hw fun e s' a' w' hA' hQ=> ?_)
   cases e with
   |exit i=>
    simp only [DZ] at hQ
    simp only [Exit.inBlock]
    split
    ·rename_i h;rw [if_pos h] at hQ;exact hK _ _ _ _ hA' hQ
    ·rename_i h;rw [if_neg h] at hQ;exact hK _ _ _ _ hA' hQ
   |normal=>exact hK _ _ _ _ hA' hQ
   |goto l=>exact hK _ _ _ _ hA' hQ
   |ret=>exact hK _ _ _ _ hA' hQ
   |panic ch=>exact hK _ _ _ _ hA' hQ
   |outgrown=>exact hK _ _ _ _ hA' hQ
  ·cases hs
 |loop c ih=>
  intro sc hs hok Q K s a w hA hw hK
  simp only [iR] at hs
  split at hs
  ·rename_i c' hc
   cases hs
   simp only [kD] at hok
   obtain ⟨α,S,μ,a0,hW,hb⟩:=hw
   refine wp_loop (fun a w=>∃ x,At C (S x) a w) (BX C S μ) ⟨a0,hW.at hA⟩ fun a w hI=> ?_
   obtain ⟨x0,hx0⟩:=hI
   obtain ⟨_,x,hx,hA'⟩:=GR (μ:=μ) hx0
   refine ih c' hc hok _ _ (S x) a w hA' (hb x) fun e s' a' w' pI hQ=> ?_
   cases e with
   |normal=>
    obtain ⟨x',hlt,hW'⟩:=hQ
    have h1:=hW'.at pI
    refine ⟨⟨x',h1⟩,?_⟩
    have:=(GR (μ:=μ) h1).1
    omega
   |exit i=>exact hK _ _ _ _ pI hQ
   |goto l=>exact hK _ _ _ _ pI hQ
   |ret=>exact hK _ _ _ _ pI hQ
   |panic ch=>exact hK _ _ _ _ pI hQ
   |outgrown=>exact hK _ _ _ _ pI hQ
  ·cases hs
 |exit id=>
  intro sc hs hok Q K s a w hA hw hK
  cases hs
  exact zB hm _ _ rfl hok Q K s a w hA hw hK
 |ret=>
  intro sc hs hok Q K s a w hA hw hK
  cases hs
  exact zB hm _ _ rfl hok Q K s a w hA hw hK
 |_=>intro sc hs;simp [iR] at hs
end
theorem ahg {P:Program} {Q:Exit→St→Prop} {c:fZ} {s:St} (h:go P [.code c] Q s.n s.t s.h):iZ P c Q s:=by
 have e:(fun (e:Exit) (s':St)=>match e with
  | .normal=>jO P Q [] s'
  | .exit id=>jO.iT P Q id [] s'
  |e=>Q e s')=Q:=by funext e s';cases e<;>rfl
 have h':iZ P c (fun (e:Exit) (s':St)=>match e with
  | .normal=>jO P Q [] s'
  | .exit id=>jO.iT P Q id [] s'
  |e=>Q e s') s:=h
 rw [e] at h'
 exact h'
theorem Fn.aT {P:Program} {f:FuncId} {sc:fZ} {res:List kW} {nt:Nat} (p:List aC→Bool) (hok:aA P f sc res nt) {xs:List AV} {bs:List (List AV)} {r:AV} {bs':List (List AV)} {es:List Ob}
 (hn:xs.length≤nt) (hgo:go P [.code (mark p sc)] (G5 res r bs' es) 8 (qR 0 xs) (je 0 bs)):Fn P f xs bs r bs' es:=by
 obtain ⟨⟨fn,c,hf,hnm,hb,hs,hres,hr4,rfl⟩,hoc,hm⟩:=hok
 refine ⟨⟨fn,hf,hnm,by rw [hb];rfl⟩,fun C ρ U w vals hr hU hv=> ?_⟩
 let C1:Ctx:={C with nt:=fn.ntmps}
 have hr1:HR C1 ρ U (je 0 bs) w:=⟨hr.hp,hr.hd,hr.inj,hr.os,hr.tape,hr.output,hr.size,hr.old,hr.lM,hr.dV,hr.fix⟩
 refine calls_of_wp hf hb (ahf (p:=p) (C:=C1) hm c sc hs hoc _ _ ⟨8,qR 0 xs,je 0 bs⟩ _ w ⟨ρ,U,⟨hr1,fun k x hk=> ?_,rfl,?_⟩,fun b hb=>by have:=hU b hb;simp only;omega⟩ (ahg hgo) fun e s a w' hA hQ=> ?_)
 ·rw [GZ] at hk
  simp only [Nat.zero_le,if_true,Nat.sub_zero] at hk
  have hlt:k<vals.size:=by rw [←hv.1];exact (List.getElem?_eq_some_iff.1 hk).1
  refine ⟨vals[k],?_,hv.2 k x _ hk (Array.getElem?_eq_getElem hlt)⟩
  simp [Array.getElem?_append,hlt]
 ·have:=hv.1
  simp only [Array.size_append,Array.size_replicate]
  show _=fn.ntmps
  omega
 ·have fin:Fin res r bs' es s.t s.h→a.defers=[]∧∃ v,(results fn a.tmps).run P w'= .ok v w'∧∃ v_1 ρ' U',Ending.returned v=Ending.returned v_1∧HR C ρ' U' (outs bs' es) w'∧VR w' (aQ C ρ' w') ρ' U' r v_1:=fun hF=>by
   obtain ⟨S,N,ys,h1,h2,h3,h4,h5⟩:=hF
   obtain ⟨ρ1,U1,hS,_⟩:=hA
   obtain ⟨vs,h6,h7,h8,h9⟩:=Ei (P:=P) hS.hr hS.tm fn.results.toList res ys hres h1
   refine ⟨hS.defers,_,Qk a.tmps w' rfl h6 hr4 h8,_,fA ρ1 S N,mY S N,rfl,?_,?_⟩
   ·have:=BZ hS.hr h2 h3 h4
    exact ⟨this.hp,this.hd,this.inj,this.os,this.tape,this.output,this.size,this.old,this.lM,this.dV,this.fix⟩
   ·exact pM hS.hr (Ql (by omega) h9) r h5
  cases e with
  |normal=>exact fin hQ
  |ret=>exact fin hQ
  |exit i=>exact hQ.elim
  |goto l=>exact hQ.elim
  |panic ch=>exact hQ.elim
  |outgrown=>exact hQ.elim
section
variable {P:Program} {k:List It} {Q:Exit→St→Prop} {n:Nat} {t:List (Nat×AV)} {h:List (Nat×Ob)} {p:List aC→Bool}
def Hq (P:Program) (b:Bool) (ops:List aC) (d:Bool) (k:List It) (Q:Exit→St→Prop) (n:Nat) (t:List (Nat×AV)) (h:List (Nat×Ob)):Prop:=
 go P (.code (bif b then .seq Ey (.region ops d) else .region ops d)::k) Q n t h
def xZ (P:Program) (k:List It) (Q:Exit→St→Prop) (n:Nat) (t:List (Nat×AV)) (h:List (Nat×Ob)):Prop:=go P (.code Ey::k) Q n t h
theorem ahh (ops:List aC) (d:Bool):go P (.code (mark p (.region ops d))::k) Q n t h=Hq P (p ops) ops d k Q n t h:=(rfl)
theorem ahi (ops:List aC) (d:Bool):Hq P false ops d k Q n t h=go P (.code (.region ops d)::k) Q n t h:=(rfl)
theorem ahj (ops:List aC) (d:Bool):Hq P true ops d k Q n t h=xZ P (.code (.region ops d)::k) Q n t h:=by
 unfold Hq xZ
 exact Qn _ _
theorem ahk (a b:fZ):go P (.code (mark p (.seq a b))::k) Q n t h=go P (.code (mark p a):: .code (mark p b)::k) Q n t h:=Qn _ _
theorem ahl (c:Operand) (x y:fZ):go P (.code (mark p (.cond c x y))::k) Q n t h=zI P (ev t c) (mark p x) (mark p y) k Q n t h:=(rfl)
theorem ahm (id:Nat) (c:fZ):go P (.code (mark p (.block id c))::k) Q n t h=go P (.code (mark p c):: .blk id::k) Q n t h:=GX _ _
theorem ahn (c:fZ):go P (.code (mark p (.loop c))::k) Q n t h=go P (.code (.loop (mark p c))::k) Q n t h:=(rfl)
theorem aho:go P (.code (mark p .skip)::k) Q n t h=go P k Q n t h:=(rfl)
theorem ahp (id:Nat):go P (.code (mark p (.exit id))::k) Q n t h=iT P id k Q n t h:=(rfl)
theorem ahq:go P (.code (mark p .ret)::k) Q n t h=Q .ret ⟨n,t,h⟩:=(rfl)
theorem Hr {t':List (Nat×AV)} {h':List (Nat×Ob)} (hw:Wk ⟨n,t,h⟩ ⟨n,t',h'⟩) (hk:go P k Q n t' h'):xZ P k Q n t h:=by
 unfold xZ Ey
 rw [GX]
 refine go_loop (fun _:Unit=>⟨n,t',h'⟩) (fun _=>0) () hw fun _ B hB=> ?_
 rw [Qo,Qq,Qp,if_pos rfl]
 exact hk
theorem wz (hk:go P k Q n t h):xZ P k Q n t h:=by
 unfold xZ Ey
 rw [GX]
 refine go_loop (fun _:Unit=>⟨n,t,h⟩) (fun _=>0) () (fun C ρ U a w hR hU=>⟨ρ,U,hR,hU⟩) fun _ B hB=> ?_
 rw [Qo,Qq,Qp,if_pos rfl]
 exact hk
end
attribute [go_sem] ahh ahi ahj ahk ahl ahm ahn aho ahp ahq
def uG:List Nat→Nat→Bool
 |[],_=>false
 |a::l,b=>(a==b)||uG l b
theorem Ez:∀ (l:List Nat) (b:Nat),uG l b=true↔b ∈ l
 |[],b=>by simp [uG]
 |a::l,b=>by
  simp only [uG,Bool.or_eq_true,beq_iff_eq,Ez l b,List.mem_cons]
  exact ⟨fun h=>h.imp Eq.symm id,fun h=>h.imp Eq.symm id⟩
def Qy (b sz off len:Nat):Option Ob→AV
 |some (.row _ _ xs)=> .sl sz ((xs.drop off).take len)
 |_=> .own b sz off len
mutual
def qW (h:List (Nat×Ob)):AV→AV
 | .own b sz off len=>Qy b sz off len (get h b)
 | .agg cs=> .agg (uI h cs)
 | .aF cs=> .aF (uI h cs)
 | .fn f cs=> .fn f (uI h cs)
 | .v x=> .v x
 | .sl sz xs=> .sl sz xs
 | .ptr b j=> .ptr b j
 | .rp b sz i j=> .rp b sz i j
 | .dU cs j=> .dU cs j
 | .mp b=> .mp b
def uI (h:List (Nat×Ob)):List AV→List AV
 |[]=>[]
 |c::cs=>qW h c::uI h cs
end
def Qz (sz off len:Nat):Option Ob→Prop
 |some (.row _ sz' xs)=>sz=sz'∧off+len≤xs.length
 |_=>False
def Zw:Option Ob→Prop
 |some (.box _)=>True
 |_=>False
mutual
def Cj (h:List (Nat×Ob)):AV→Prop
 | .own b sz off len=>Qz sz off len (get h b)
 | .agg cs=>x9 h cs
 | .aF cs=>x9 h cs
 | .fn _ cs=>x9 h cs
 | .v _=>True
 | .sl _ _=>True
 | .ptr b _=>Zw (get h b)
 | .rp _ _ _ _=>False
 | .dU _ _=>True
 | .mp _=>False
def x9 (h:List (Nat×Ob)):List AV→Prop
 |[]=>True
 |c::cs=>Cj h c∧x9 h cs
end
def QA:Ob→Bool
 | .box _=>true
 |_=>false
def iG:List Nat→List (Nat×Ob)→List Nat
 |_,[]=>[]
 |s,(k,o)::l=>if uG s k=true then iG s l else if QA o=true then k::iG (k::s) l else iG (k::s) l
def Ht (h:List (Nat×Ob)) (k:Nat) (r:List (Nat×Ob)):Option Ob→List (Nat×Ob)
 |some (.box cs)=>(k,.box (uI h cs))::r
 |_=>r
def uJ (h:List (Nat×Ob)):List Nat→List (Nat×Ob)
 |[]=>[]
 |k::l=>Ht h k (uJ h l) (get h k)
def Zx (h:List (Nat×Ob)):Option Ob→Prop
 |some (.box cs)=>x9 h cs
 |_=>True
def Cm (h:List (Nat×Ob)):List Nat→Prop
 |[]=>True
 |k::l=>Zx h (get h k)∧Cm h l
def Zy (sz:Nat):Option Ob→Bool
 |some (.row _ sz' _)=>sz==sz'
 |_=>false
def Zz:Option Ob→Bool
 |some (.box _)=>true
 |_=>false
def kp (h:List (Nat×Ob)):AV→Bool
 | .v _=>true
 | .sl _ _=>true
 | .own b sz _ _=>Zy sz (get h b)
 | .ptr b _=>Zz (get h b)
 |_=>false
def wB (h:List (Nat×Ob)):List Nat→List (Nat×AV)→List (Nat×AV)
 |_,[]=>[]
 |s,(k,x)::l=>if uG s k=true then wB h s l else if kp h x=true then (k,qW h x)::wB h (k::s) l else wB h (k::s) l
def yc (h:List (Nat×Ob)):List Nat→List (Nat×AV)→Prop
 |_,[]=>True
 |s,(k,x)::l=>if uG s k=true then yc h s l else if kp h x=true then Cj h x∧yc h (k::s) l else yc h (k::s) l
def kZ (l:List Nat):List (Nat×Nat):=l.map fun k=>(k,k)
theorem ZA (l:List Nat) (b:Nat):get (kZ l) b=if b ∈ l then some b else none:=by
 induction l with
 |nil=>rfl
 |cons a l ih=>
  simp only [kZ,List.map_cons,get] at ih ⊢
  by_cases e:a=b
  ·subst e;simp
  ·rw [if_neg e,ih]
   simp [Ne.symm e]
theorem Hu (h0:List (Nat×Ob)):∀ (l:List (Nat×Ob)) (s:List Nat),(∀ k,k ∉ s→get h0 k=get l k)→(∀ b,b ∈ iG s l↔(b ∉ s∧∃ cs,get h0 b=some (.box cs)))∧(iG s l).Nodup
 |[],s,hh=>by
  refine ⟨fun b=>⟨fun h=>by simp [iG] at h,fun ⟨h1,cs,h2⟩=> ?_⟩,by simp [iG]⟩
  rw [hh b h1] at h2
  cases h2
 |(k,o)::l,s,hh=>by
  simp only [iG]
  by_cases hm:uG s k=true
  ·rw [if_pos hm]
   have hk:=(Ez s k).1 hm
   refine Hu h0 l s fun b hb=> ?_
   rw [hh b hb,jK]
   intro e;subst e;exact hb hk
  ·rw [if_neg hm]
   have hk:k ∉ s:=fun h=>hm ((Ez s k).2 h)
   have ih:=Hu h0 l (k::s) fun b hb=>by
    have hb:=fun q=>hb (List.mem_cons.2 q)
    rw [hh b (fun h=>hb (.inr h)),jK]
    intro e;exact hb (.inl e.symm)
   have h0k:get h0 k=some o:=by rw [hh k hk,o6]
   by_cases hb:QA o=true
   ·rw [if_pos hb]
    have ho:∃ cs,o= .box cs:=by cases o<;>first|exact ⟨_,rfl⟩|cases hb
    obtain ⟨cs,rfl⟩:=ho
    refine ⟨fun b=> ?_,List.nodup_cons.2 ⟨fun h=>((ih.1 k).1 h).1 (by simp),ih.2⟩⟩
    rw [List.mem_cons,ih.1 b]
    constructor
    ·rintro (rfl|⟨h1,h2⟩)
     ·exact ⟨hk,_,h0k⟩
     ·exact ⟨fun h=>h1 (List.mem_cons_of_mem _ h),h2⟩
    ·rintro ⟨h1,h2⟩
     by_cases e:b=k
     ·exact .inl e
     ·exact .inr ⟨fun h=>by rcases List.mem_cons.1 h with h|h;exact e h;exact h1 h,h2⟩
   ·rw [if_neg hb]
    refine ⟨fun b=> ?_,ih.2⟩
    rw [ih.1 b]
    constructor
    ·rintro ⟨h1,h2⟩
     exact ⟨fun h=>h1 (List.mem_cons_of_mem _ h),h2⟩
    ·rintro ⟨h1,cs,h2⟩
     refine ⟨fun h=> ?_,cs,h2⟩
     rcases List.mem_cons.1 h with h|h
     ·subst h;rw [h0k] at h2;cases h2;exact hb rfl
     ·exact h1 h
theorem CB (h:List (Nat×Ob)) (b:Nat):b ∈ iG [] h↔∃ cs,get h b=some (.box cs):=by
 rw [(Hu h h [] fun _ _=>rfl).1 b];simp
section
variable (h:List (Nat×Ob))
mutual
theorem ZB:∀ (x:AV),Cj h x→rv h (kZ (iG [] h)) [] (qW h x) x
 | .own b sz off len,hp=>by
  simp only [Cj] at hp
  simp only [qW]
  cases hg:get h b with
  |none=>rw [hg] at hp;exact hp.elim
  |some o=>
   rw [hg] at hp
   cases o with
   |row e sz' xs=>
    simp only [Qz] at hp
    simp only [Qy,rv,hg]
    refine ⟨fun hb=> ?_,trivial,hp.1,hp.2,trivial⟩
    have:b ∈ iG [] h:=by
     simp only [kZ,List.map_map,List.mem_map] at hb
     obtain ⟨k,h1,rfl⟩:=hb
     exact h1
    obtain ⟨cs,h2⟩:=(CB h b).1 this
    rw [hg] at h2
    cases h2
   |_=>exact hp.elim
 | .agg cs,hp=>by simp only [qW,rv];exact EC cs hp
 | .aF cs,hp=>by simp only [qW,rv];exact EC cs hp
 | .fn f cs,hp=>by simp only [qW,rv];exact ⟨trivial,EC cs hp⟩
 | .v x,hp=>by simp only [qW,rv]
 | .sl sz xs,hp=>by simp only [qW,rv,and_self]
 | .ptr b j,hp=>by
  simp only [Cj] at hp
  simp only [qW,rv,and_true]
  rw [ZA,if_pos]
  rw [CB]
  cases hg:get h b with
  |none=>rw [hg] at hp;exact hp.elim
  |some o=>rw [hg] at hp;cases o<;>first|exact ⟨_,rfl⟩|exact hp.elim
 | .rp b sz i j,hp=>hp.elim
 | .dU cs j,hp=>by simp only [qW,rv,and_self]
 | .mp b,hp=>hp.elim
theorem EC:∀ (cs:List AV),x9 h cs→au h (kZ (iG [] h)) [] (uI h cs) cs
 |[],_=>by simp only [uI,au]
 |c::cs,hp=>by simp only [uI,au];exact ⟨ZB c hp.1,EC cs hp.2⟩
end
theorem ZC:∀ (l:List Nat) (b:Nat),(∀ k ∈ l,∃ cs,get h k=some (.box cs))→get (uJ h l) b=if b ∈ l then (match get h b with
 |some (.box cs)=>some (.box (uI h cs))
 |_=>none) else none
 |[],b,_=>rfl
 |k::l,b,hk=>by
  obtain ⟨cs,hc⟩:=hk k (by simp)
  have ih:=ZC l b fun j hj=>hk j (List.mem_cons_of_mem _ hj)
  simp only [uJ,hc,Ht,get]
  by_cases e:k=b
  ·subst e;simp [hc]
  ·rw [if_neg e,ih]
   have:(b ∈ k::l)=(b ∈ l):=by simp [Ne.symm e]
   simp only [this]
theorem ZE:∀ (l:List Nat),Cm h l→∀ b ∈ l,∀ cs,get h b=some (.box cs)→x9 h cs
 |[],_,b,hb,_,_=>by cases hb
 |k::l,hp,b,hb,cs,hc=>by
  rcases List.mem_cons.1 hb with rfl|hb
  ·have:=hp.1;rw [hc] at this;exact this
  ·exact ZE l hp.2 b hb cs hc
theorem ZF:∀ (l:List Nat),(∀ k ∈ l,∃ cs,get h k=some (.box cs))→(uJ h l).map Prod.fst=l
 |[],_=>rfl
 |k::l,hk=>by
  obtain ⟨cs,hc⟩:=hk k (by simp)
  simp only [uJ,hc,Ht,List.map_cons,ZF l fun j hj=>hk j (List.mem_cons_of_mem _ hj)]
theorem ZG:∀ (l:List Nat),(∀ k ∈ l,k ∈ iG [] h)→Cm h (iG [] h)→dJ h (kZ (iG [] h)) [] (uJ h (iG [] h)) (kZ l)
 |[],_,_=>by simp only [kZ,List.map_nil,dJ]
 |k::l,hl,hp=>by
  have hk:=hl k (by simp)
  obtain ⟨cs,hc⟩:=(CB h k).1 hk
  have ih:=ZG l (fun j hj=>hl j (List.mem_cons_of_mem _ hj)) hp
  simp only [kZ,List.map_cons,dJ] at ih ⊢
  refine ⟨?_,ih⟩
  have h1:=ZC h (iG [] h) k fun j hj=>(CB h j).1 hj
  rw [if_pos hk,hc] at h1
  simp only at h1
  simp only [h1,hc,cO]
  exact EC h cs (ZE h _ hp k hk cs hc)
theorem Hw (t0:List (Nat×AV)):∀ (l:List (Nat×AV)) (s:List Nat),(∀ k,k ∉ s→get t0 k=get l k)→yc h s l→gU h (kZ (iG [] h)) [] t0 (wB h s l)
 |[],s,_,_=>by simp only [wB,gU]
 |(k,x)::l,s,hh,hp=>by
  simp only [yc] at hp
  simp only [wB]
  by_cases hm:uG s k=true
  ·rw [if_pos hm] at hp ⊢
   have hk:=(Ez s k).1 hm
   refine Hw t0 l s (fun b hb=> ?_) hp
   rw [hh b hb,jK]
   intro e;subst e;exact hb hk
  ·rw [if_neg hm] at hp ⊢
   have hk:k ∉ s:=fun h=>hm ((Ez s k).2 h)
   have hh2:∀ b,b ∉ k::s→get t0 b=get l b:=fun b hb=>by
    have hb:=fun q=>hb (List.mem_cons.2 q)
    rw [hh b (fun h=>hb (.inr h)),jK]
    intro e;exact hb (.inl e.symm)
   by_cases hx:kp h x=true
   ·rw [if_pos hx] at hp ⊢
    simp only [gU]
    refine ⟨?_,Hw t0 l (k::s) hh2 hp.2⟩
    rw [hh k hk,o6]
    exact ZB h x hp.1
   ·rw [if_neg hx] at hp ⊢
    exact Hw t0 l (k::s) hh2 hp
theorem ahr:okS h (kZ (iG [] h)) [] (uJ h (iG [] h))=true:=by
 have hn:=(Hu h h [] fun _ _=>rfl).2
 have e1:(kZ (iG [] h)).map Prod.snd=iG [] h:=by simp [kZ,Function.comp_def]
 have e2:(kZ (iG [] h)).map Prod.fst=iG [] h:=by simp [kZ,Function.comp_def]
 have hk:∀ b,pK h (kZ (iG [] h)) b=true:=fun b=>by
  unfold pK
  split
  ·rename_i cs hc
   rw [ZA,if_pos ((CB h b).2 ⟨cs,hc⟩)]
   simp
  ·rfl
 unfold okS
 rw [e1,e2,ZF h _ fun j hj=>(CB h j).1 hj]
 simp [hn,hk]
end
def ED (n:Nat):List Nat→Bool
 |[]=>true
 |k::l=>Nat.blt k n&&ED n l
theorem ZH {n:Nat}:∀ {l:List Nat},ED n l=true→∀ k ∈ l,k<n
 |[],_,k,hk=>by cases hk
 |a::l,h,k,hk=>by
  simp only [ED,Bool.and_eq_true] at h
  rcases List.mem_cons.1 hk with rfl|hk
  ·have:=h.1;rwa [Nat.blt_eq] at this
  ·exact ZH h.2 k hk
section
variable {P:Program} {k:List It} {Q:Exit→St→Prop} {n:Nat} {t:List (Nat×AV)} {h:List (Nat×Ob)}
theorem CG {B:List Nat} (hB:iG [] h=B) (hn:ED n B=true) (hp:Cm h B∧yc h [] t) (hk:go P k Q n (wB h [] t) (uJ h B)):xZ P k Q n t h:=by
 subst hB
 refine Hr (Wk.mk (kZ (iG [] h)) [] (ahr h) ?_ (ZG h _ (fun _ h=>h) hp.1) trivial (Hw h t t [] (fun _ _=>rfl) hp.2)) hk
 simp only [kZ,List.map_map,List.append_nil,List.all_eq_true,List.mem_map,Function.comp]
 rintro b ⟨c,hc,rfl⟩
 exact decide_eq_true (ZH hn c hc)
end
def ZI:iF→Bool
 | .call _ _=>true
 | .mV _ _ zs _ _=>decide (10≤zs.length)
 |_=>false
def bY:List aC→Bool
 |[]=>false
 |o::l=>ZI o.op||bY l
def ZJ:iF→Bool
 | .mV _ _ zs _ _=>decide (10≤zs.length)
 |_=>false
def dA:List aC→Bool
 |[]=>false
 |o::l=>ZJ o.op||dA l
attribute [go_sem] ZJ dA
attribute [go_sem ↓] reduceIte
attribute [go_sem] Bool.true_or Bool.or_true Bool.false_or Bool.or_false Bool.or_self
attribute [go_sem] uG Qy qW uI Qz Zw Cj x9 QA iG Ht uJ Zx Cm Zy Zz kp wB yc ZI bY
end Go.Eng
namespace Go.Eng
open Go
def QB (a b:ByteArray):ByteArray:=⟨(a.data.toList++b.data.toList).toArray⟩
theorem ahs (a b:ByteArray):a++b=QB a b:=by
 obtain ⟨⟨a⟩⟩:=a
 obtain ⟨⟨b⟩⟩:=b
 apply ByteArray.ext
 simp [QB]
def QC (s:ByteArray) (l r:Nat):ByteArray:=⟨((s.data.toList.take r).drop l).toArray⟩
theorem aht (s:ByteArray) (l r:Nat):s.extract l r=QC s l r:=by
 obtain ⟨⟨s⟩⟩:=s
 apply ByteArray.ext
 simp [QC,List.extract_eq_take_drop,List.drop_take]
def EF:BinOp→Value→Value→Option Value
 | .eql,.string a,.string b=>some (.bool (a.data.toList==b.data.toList))
 | .neq,.string a,.string b=>some (.bool (!(a.data.toList==b.data.toList)))
 |op,x,y=>lN op x y
theorem ahu (op:BinOp) (x y:Value):lN op x y=EF op x y:=by
 unfold EF
 split<;>simp [lN,ByteArray.toList_eq]
def qX:BinOp→Value→Value→Option (Bool×Value)
 | .quo,.int k a,.int k' b=>if k=k' then some (decide (b≠0),.int k (k.wrap (a.tdiv b))) else none
 | .rem,.int k a,.int k' b=>if k=k' then some (decide (b≠0),.int k (a.tmod b)) else none
 | .shl,.int k a,.int _ b=>some (decide (0≤b),.int k (k.wrap (a*2 ^ (min b.toNat k.bits))))
 | .shr,.int k a,.int _ b=>some (decide (0≤b),.int k (a.fdiv (2 ^ (min b.toNat k.bits))))
 | .add,.string a,.string b=>some (decide (a.size+b.size≤maxLen),.string (QB a b))
 |_,_,_=>none
theorem ZK (op:BinOp) (x y:Value):oh op x y=(qX op x y).map fun p=>(p.1=true,p.2):=by
 unfold oh
 split
 ·simp only [qX];split<;>simp
 ·simp only [qX];split<;>simp
 ·simp [qX]
 ·simp [qX]
 ·simp [qX,ahs]
 ·rename_i h1 h2 h3 h4 h5
  unfold qX
  split
  ·exact (h1 _ _ _ _ rfl rfl rfl).elim
  ·exact (h2 _ _ _ _ rfl rfl rfl).elim
  ·exact (h3 _ _ _ _ rfl rfl rfl).elim
  ·exact (h4 _ _ _ _ rfl rfl rfl).elim
  ·exact (h5 _ _ rfl rfl rfl).elim
  ·rfl
def CJ:List Nat→List AV→List AV→Option Bool
 |[],[],[]=>some true
 |0::ks,.v (.int k a)::l,.v (.int k' b)::l'=>if k=k' then (match CJ ks l l' with
  |some r=>some ((a==b)&&r)
  |none=>none) else none
 |1::ks,.v (.string a)::l,.v (.string b)::l'=>match CJ ks l l' with
  |some r=>some ((a.data.toList==b.data.toList)&&r)
  |none=>none
 |2::ks,.v (.bool a)::l,.v (.bool b)::l'=>match CJ ks l l' with
  |some r=>some ((a==b)&&r)
  |none=>none
 |_,_,_=>none
theorem ahv:∀ (ks:List Nat) (l l':List AV),ku ks l l'=CJ ks l l':=by
 intro ks l l'
 induction ks,l,l' using ku.induct<;>simp_all [ku,CJ,ByteArray.toList_eq]
def uK (h:List (Nat×Ob)) (sz:Nat):Option AV→Option (Bool×List (List AV))
 |some (.v (.slice none 0 0))=>some (true,[])
 |some (.sl sz' xs)=>if sz=sz' then some (true,xs) else none
 |some (.own b sz' off len)=>match get h b with
  |some (.row _ dX xs)=>if sz=sz'∧sz=dX then some (decide (off+len≤xs.length),(xs.drop off).take len) else none
  |_=>none
 |_=>none
theorem ahw (h:List (Nat×Ob)) (sz:Nat) (x:Option AV):kT h sz x=(uK h sz x).map fun p=>(p.1=true,p.2):=by
 unfold kT
 split
 ·simp [uK]
 ·simp only [uK];split<;>simp_all
 ·rename_i b sz' off len
  simp only [uK]
  cases hg:get h b with
  |none=>rfl
  |some o=>
   cases o with
   |row e dX xs=>simp only;split<;>simp
   |_=>rfl
 ·rename_i h1 h2 h3
  unfold uK
  split
  ·exact (h1 rfl).elim
  ·exact (h2 _ _ rfl).elim
  ·exact (h3 _ _ _ _ rfl).elim
  ·rfl
def lm (nm:Nat) (t:List (Nat×AV)) (h:List (Nat×Ob)):iF→Option E
 | .bin op x y=>match ev t x,ev t y with
  |some (.v a),some (.v b)=>match EF op a b with
   |some c=>E.ok (.v c)
   |none=>match qX op a b with
    |some (p,c)=>some ⟨p=true,.v c,[]⟩
    |none=>none
  |_,_=>none
 | .eqs neg ks x y=>match ev t x,ev t y with
  |some (.agg a),some (.agg b)=>match CJ ks a b with
   |some c=>E.ok (.v (.bool (if neg then !c else c)))
   |none=>none
  |_,_=>none
 | .nZ x lo hi=>match ev t x,bound t 0 lo with
  |some (.v (.string s)),some l=>match bound t s.size hi with
   |some r=>some ⟨0≤l∧l≤r∧r≤s.size,.v (.string (QC s l.toNat r.toNat)),[]⟩
   |none=>none
  |_,_=>none
 |op=>eff nm t h op
theorem Hy (nm:Nat) (t:List (Nat×AV)) (h:List (Nat×Ob)) (op:iF):eff nm t h op=lm nm t h op:=by
 cases op
 case bin op x y=>
  simp only [eff,lm]
  rcases ev t x with _|X
  ·rfl
  rcases ev t y with _|Y
  ·cases X<;>rfl
  cases X<;>try rfl
  cases Y<;>try rfl
  rename_i a b
  simp only [ahu,ZK]
  cases EF op a b with
  |some c=>rfl
  |none=>cases qX op a b<;>rfl
 case eqs neg ks x y=>simp only [eff,lm,ahv];rfl
 case nZ x lo hi=>simp only [eff,lm,aht];rfl
 all_goals rfl
def preB (t:List (Nat×AV)) (h:List (Nat×Ob)):iF→Bool
 | .load ag sz x=>match ev t x with
  |some (.rp b _ k j)=>match get h b with
   |some (.row _ dX xs)=>if ag then decide (k<xs.length∧j+sz≤dX) else decide (k<xs.length∧j<dX)
   |_=>false
  |_=>true
 | .store sz x _=>match ev t x with
  |some (.rp b _ k j)=>match get h b with
   |some (.row _ dX xs)=>decide (k<xs.length∧j+sz≤dX)
   |_=>false
  |_=>true
 | .bin op x y=>match ev t x,ev t y with
  |some (.v a),some (.v b)=>match lN op a b with
   |some _=>true
   |none=>match qX op a b with
    |some (p,_)=>p
    |none=>false
  |_,_=>false
 | .nY x=>match uK h 1 (ev t x) with
  |some (p,_)=>p
  |none=>false
 | .o7 _ _ bytes _ l c=>match ev t l,ev t c with
  |some (.v (.int _ n)),some (.v (.int _ m))=>decide (0≤n∧n=m∧n*bytes≤140737488355328∧n≤9223372036854775807)
  |_,_=>false
 | .app _ sz bytes _ s x=>match ev t s,uK h sz (ev t x) with
  |some (.v (.slice none 0 0)),some (p,news)=>p&&decide (news.length*bytes≤140737488355328∧news.length≤maxLen)
  |some (.fn 2000000 [.sl _ xs]),some (p,news)=>if 0<news.length then p&&decide ((xs.length+news.length)*bytes≤140737488355328∧xs.length+news.length≤maxLen) else p
  |some (.own b _ off len),some (p,news)=>match get h b with
   |some (.row _ _ xs)=>if off+len+news.length≤xs.length then p else p&&decide ((len+news.length)*bytes≤140737488355328∧len+news.length≤maxLen∧off+len≤xs.length)
   |_=>false
  |_,_=>false
 | .slice _ x lo hi (some m)=>match hi with
  |some y=>match ev t x,bound t 0 lo,ev t y,ev t m with
   |some (.sl _ xs),some l,some (.v (.int _ r)),some (.v (.int _ c))=>decide (l=0∧r=c∧r=xs.length)
   |some (.v (.slice none 0 0)),some l,some (.v (.int _ r)),some (.v (.int _ c))=>decide (l=0∧r=0∧c=0)
   |some (.own _ _ _ len),some l,some (.v (.int _ r)),some (.v (.int _ c))=>decide (0≤l∧l≤r∧r≤c∧c≤len)
   |_,_,_,_=>false
  |none=>false
 | .slice sz x lo hi none=>match ev t x,bound t 0 lo with
  |some (.sl _ xs),some l=>match bound t xs.length hi with
   |some r=>decide (0≤l∧l≤r∧r≤xs.length)
   |none=>false
  |some (.own b _ off len),some l=>match get h b,bound t len hi with
   |some (.row _ dX xs),some r=>decide (0≤l∧l≤r∧(r≤len∨(0<sz∧sz=dX∧off+r.toNat≤xs.length)))
   |_,_=>false
  |some (.v (.slice none 0 0)),some l=>match bound t 0 hi with
   |some r=>decide (l=0∧r=0)
   |none=>false
  |_,_=>false
 | .nZ x lo hi=>match ev t x,bound t 0 lo with
  |some (.v (.string s)),some l=>match bound t s.size hi with
   |some r=>decide (0≤l∧l≤r∧r≤s.size)
   |none=>false
  |_,_=>false
 | .idxs x i=>match ev t x,ev t i with
  |some (.v (.string s)),some (.v (.int _ n))=>decide (0≤n∧n<s.size)
  |_,_=>false
 | .idx ag len sz x i=>match ev t x,ev t i with
  |some (.agg cs),some (.v (.int _ n))=>if ag then decide (0≤n∧n<len∧n.toNat*sz+sz≤cs.length) else decide (0≤n∧n<len)
  |_,_=>false
 | .o9 _ _ bytes _ _ x=>match ev t x with
  |some (.v (.int _ n))=>decide (0<n∧n*bytes≤140737488355328∧n≤9223372036854775807)
  |_=>false
 | .pq _ _ x=>match ev t x with
  |some (.own b _ off len)=>match get h b with
   |some (.row _ _ xs)=>decide (off+len≤xs.length)
   |_=>false
  |_=>false
 | .copy sz d x=>match ev t d,uK h sz (ev t x) with
  |some (.own b _ off len),some (p,_)=>match get h b with
   |some (.row _ _ xs)=>p&&decide (off+len≤xs.length)
   |_=>false
  |_,_=>false
 | .mD _ x=>match ev t x with
  |some (.rp b _ k _)=>match get h b with
   |some (.row _ _ xs)=>decide (k<xs.length)
   |_=>false
  |_=>true
 | .o8 _ x i=>match ev t x,ev t i with
  |some (.sl _ xs),some (.v (.int _ n))=>decide (0≤n∧n<xs.length)
  |some (.own _ _ _ len),some (.v (.int _ n))=>decide (0≤n∧n<len)
  |_,_=>false
 |_=>true
theorem EG {h:List (Nat×Ob)} {sz:Nat} {x:Option AV} {p:Prop} {xs:List (List AV)} (e:kT h sz x=some (p,xs)):∃ q:Bool,uK h sz x=some (q,xs)∧(q=true→p):=by
 rw [ahw] at e
 cases hc:uK h sz x with
 |none=>rw [hc] at e;cases e
 |some r=>
  rw [hc] at e
  obtain ⟨q,ys⟩:=r
  simp only [Option.map_some,Option.some.injEq,Prod.mk.injEq] at e
  obtain ⟨rfl,rfl⟩:=e
  exact ⟨q,rfl,fun h=>h⟩
theorem ahx {op:BinOp} {a b:Value} {p:Prop} {c:Value} (e:oh op a b=some (p,c)):∃ q:Bool,qX op a b=some (q,c)∧(q=true→p):=by
 rw [ZK] at e
 cases hc:qX op a b with
 |none=>rw [hc] at e;cases e
 |some r=>
  rw [hc] at e
  obtain ⟨q,ys⟩:=r
  simp only [Option.map_some,Option.some.injEq,Prod.mk.injEq] at e
  obtain ⟨rfl,rfl⟩:=e
  exact ⟨q,rfl,fun h=>h⟩
set_option maxHeartbeats 4000000 in
theorem QD {nm:Nat} {t:List (Nat×AV)} {h:List (Nat×Ob)} {op:iF} {e:E} (he:eff nm t h op=some e) (hp:preB t h op=true):e.pre:=by
 cases op
 case bin op x y=>
  simp only [eff,E.ok] at he
  split at he
  ·rename_i a b h1 h2
   split at he
   ·cases he;trivial
   ·rename_i hn
    split at he
    ·rename_i p c hs
     cases he
     obtain ⟨q,h3,h4⟩:=ahx hs
     simp only [preB,h1,h2,hn,h3] at hp
     exact h4 hp
    ·cases he
  ·cases he
 case nY x=>
  simp only [eff,E.ok] at he
  split at he
  ·rename_i p xs h1
   split at he
   ·cases he
    obtain ⟨q,h3,h4⟩:=EG h1
    simp only [preB,h3] at hp
    exact h4 hp
   ·cases he
  ·cases he
 case app ty sz bytes zs x y=>
  simp only [eff,E.ok] at he
  split at he
  ·rename_i p news h1 h2
   cases he
   obtain ⟨q,h3,h4⟩:=EG h2
   simp only [preB,h1,h3,Bool.and_eq_true,decide_eq_true_eq] at hp
   exact ⟨h4 hp.1,hp.2⟩
  ·rename_i sz' xs p news h1 h2
   split at he
   ·obtain ⟨q,h3,h4⟩:=EG h2
    split at he
    ·rename_i hpos
     cases he
     simp only [preB,h1,h3,if_pos hpos,Bool.and_eq_true,decide_eq_true_eq] at hp
     exact ⟨h4 hp.1,hp.2⟩
    ·rename_i hpos
     cases he
     simp only [preB,h1,h3,if_neg hpos] at hp
     exact h4 hp
   ·cases he
  ·rename_i b sz' off len p news h1 h2
   split at he
   ·rename_i e' dX xs hg
    split at he
    ·obtain ⟨q,h3,h4⟩:=EG h2
     split at he
     ·rename_i hrm
      cases he
      simp only [preB,h1,h3,hg,if_pos hrm] at hp
      exact h4 hp
     ·rename_i hrm
      cases he
      simp only [preB,h1,h3,hg,if_neg hrm,Bool.and_eq_true,decide_eq_true_eq] at hp
      exact ⟨h4 hp.1,hp.2⟩
    ·cases he
   ·cases he
  ·cases he
 case copy sz d x=>
  simp only [eff] at he
  split at he
  ·rename_i b sz' off len p ys h1 h2
   split at he
   ·rename_i e' dX xs hg
    split at he
    ·simp only [Option.some.injEq] at he;subst he
     obtain ⟨q,h3,h4⟩:=EG h2
     simp only [preB,h1,h3,hg,Bool.and_eq_true,decide_eq_true_eq] at hp
     exact ⟨h4 hp.1,hp.2⟩
    ·cases he
   ·cases he
  ·cases he
 case o7 ty sz bytes zs l c=>
  simp only [eff,E.ok] at he
  split at he
  ·rename_i k n k' m h1 h2
   cases he
   simp only [preB,h1,h2,decide_eq_true_eq] at hp
   exact hp
  ·cases he
 case slice sz x lo hi mx=>
  cases mx with
  |none=>simp only [eff,E.ok] at he;(repeat' split at he)<;>simp_all [preB]<;>(subst he;simp_all)
  |some m=>
   cases hi with
   |none=>simp only [preB] at hp;cases hp
   |some y=>
    simp only [eff] at he
    simp only [preB] at hp
    split at hp
    ·rename_i sz' xs l k r k' c h1 h2 h3 h4
     simp only [h1,h2,h3,h4] at he
     split at he
     ·simp only [Option.some.injEq] at he;subst he;simpa only [decide_eq_true_eq] using hp
     ·cases he
    ·rename_i l k r k' c h1 h2 h3 h4
     simp only [h1,h2,h3,h4,Option.some.injEq] at he
     subst he
     simpa only [decide_eq_true_eq] using hp
    ·rename_i b sz' off len l k r k' c h1 h2 h3 h4
     simp only [h1,h2,h3,h4] at he
     split at he
     ·split at he
      ·simp_all only [Option.some.injEq,decide_eq_true_eq]
       subst he
       simp_all
      ·cases he
     ·cases he
    ·cases hp
 all_goals (simp only [eff,E.ok] at he;(repeat' split at he)<;>simp_all [preB]<;>(subst he;simp_all))
end Go.Eng
namespace Go.Eng
open Go
def uM (S:List (Nat×Nat)) (k b:Nat):Bool:=match get S k with
 |some c=>c==b
 |none=>false
theorem Hz {S:List (Nat×Nat)} {k b:Nat} (h:uM S k b=true):get S k=some b:=by
 unfold uM at h
 split at h
 ·rename_i c hc;rw [hc,eq_of_beq h]
 ·cases h
mutual
def tr (h:List (Nat×Ob)) (S inv:List (Nat×Nat)):AV→Option AV
 | .own b sz off len=>match get inv b with
  |some k=>bif uM S k b then some (.own k sz off len) else none
  |none=>bif (S.map Prod.snd).contains b then none else match get h b with
   |some (.row _ dX xs)=>if sz=dX∧off+len≤xs.length then some (.sl sz ((xs.drop off).take len)) else none
   |_=>none
 | .rp b sz i j=>match get inv b with
  |some k=>bif uM S k b then some (.rp k sz i j) else none
  |none=>bif (S.map Prod.snd).contains b then none else match get h b with
   |some (.row _ dX xs)=>if sz=dX∧i<xs.length then some (.dU (nth xs i) j) else none
   |_=>none
 | .ptr b j=>match get inv b with
  |some k=>bif uM S k b then some (.ptr k j) else none
  |none=>none
 | .mp b=>match get inv b with
  |some k=>bif uM S k b then some (.mp k) else none
  |none=>none
 | .agg cs=>match kH h S inv cs with
  |some ys=>some (.agg ys)
  |none=>none
 | .aF cs=>match kH h S inv cs with
  |some ys=>some (.aF ys)
  |none=>none
 | .fn f cs=>match kH h S inv cs with
  |some ys=>some (.fn f ys)
  |none=>none
 | .v a=>some (.v a)
 | .sl sz xs=>some (.sl sz xs)
 | .dU cs j=>some (.dU cs j)
def kH (h:List (Nat×Ob)) (S inv:List (Nat×Nat)):List AV→Option (List AV)
 |[]=>some []
 |c::cs=>match tr h S inv c with
  |some y=>match kH h S inv cs with
   |some ys=>some (y::ys)
   |none=>none
  |none=>none
end
theorem ZL {S:List Nat} {b:Nat} (h:S.contains b=false):b ∉ S:=by
 intro hm
 rw [List.contains_iff_mem.2 hm] at h
 cases h
mutual
theorem EH {h:List (Nat×Ob)} {S inv:List (Nat×Nat)}:∀ (x y:AV),tr h S inv x=some y→rv h S [] y x
 | .own b sz off len,y,e=>by
  simp only [tr] at e
  split at e
  ·rename_i k hk
   cases hs:uM S k b with
   |false=>rw [hs] at e;cases e
   |true=>rw [hs] at e;simp only [cond_true,Option.some.injEq] at e;subst e;simp only [rv,Hz hs,and_self]
  ·cases hc:(S.map Prod.snd).contains b with
   |true=>rw [hc] at e;cases e
   |false=>
    rw [hc] at e
    simp only [cond_false] at e
    split at e
    ·rename_i x1 dX xs hg
     split at e
     ·rename_i h1
      simp only [Option.some.injEq] at e
      subst e
      simp only [rv,hg]
      simp only [h1.1,h1.2,and_true,true_and]
      exact ZL hc
     ·cases e
    ·cases e
 | .rp b sz i j,y,e=>by
  simp only [tr] at e
  split at e
  ·rename_i k hk
   cases hs:uM S k b with
   |false=>rw [hs] at e;cases e
   |true=>rw [hs] at e;simp only [cond_true,Option.some.injEq] at e;subst e;simp only [rv,Hz hs,and_self]
  ·cases hc:(S.map Prod.snd).contains b with
   |true=>rw [hc] at e;cases e
   |false=>
    rw [hc] at e
    simp only [cond_false] at e
    split at e
    ·rename_i x1 dX xs hg
     split at e
     ·rename_i h1
      simp only [Option.some.injEq] at e
      subst e
      simp only [rv,hg]
      simp only [h1.1,h1.2,and_true,true_and]
      exact ZL hc
     ·cases e
    ·cases e
 | .ptr b j,y,e=>by
  simp only [tr] at e
  split at e
  ·rename_i k hk
   cases hs:uM S k b with
   |false=>rw [hs] at e;cases e
   |true=>rw [hs] at e;simp only [cond_true,Option.some.injEq] at e;subst e;simp only [rv,Hz hs,and_self]
  ·cases e
 | .mp b,y,e=>by
  simp only [tr] at e
  split at e
  ·rename_i k hk
   cases hs:uM S k b with
   |false=>rw [hs] at e;cases e
   |true=>rw [hs] at e;simp only [cond_true,Option.some.injEq] at e;subst e;simp only [rv,Hz hs]
  ·cases e
 | .agg cs,y,e=>by
  simp only [tr] at e
  split at e
  ·rename_i ys hy;cases e;simp only [rv];exact qY cs ys hy
  ·cases e
 | .aF cs,y,e=>by
  simp only [tr] at e
  split at e
  ·rename_i ys hy;cases e;simp only [rv];exact qY cs ys hy
  ·cases e
 | .fn f cs,y,e=>by
  simp only [tr] at e
  split at e
  ·rename_i ys hy;cases e;simp only [rv,true_and];exact qY cs ys hy
  ·cases e
 | .v a,y,e=>by simp only [tr,Option.some.injEq] at e;subst e;simp only [rv]
 | .sl sz xs,y,e=>by simp only [tr,Option.some.injEq] at e;subst e;simp only [rv,and_self]
 | .dU cs j,y,e=>by simp only [tr,Option.some.injEq] at e;subst e;simp only [rv,and_self]
theorem qY {h:List (Nat×Ob)} {S inv:List (Nat×Nat)}:∀ (xs ys:List AV),kH h S inv xs=some ys→au h S [] ys xs
 |[],ys,e=>by simp only [kH,Option.some.injEq] at e;subst e;simp only [au]
 |c::cs,ys,e=>by
  simp only [kH] at e
  split at e
  ·rename_i y hy
   split at e
   ·rename_i ys' hys
    cases e
    simp only [au]
    exact ⟨EH c y hy,qY cs ys' hys⟩
   ·cases e
  ·cases e
end
mutual
theorem ahy {h:List (Nat×Ob)} {S inv:List (Nat×Nat)}:∀ (x:AV),x.pure=true→tr h S inv x=some x
 | .v a,_=>by simp only [tr]
 | .sl sz xs,_=>by simp only [tr]
 | .dU cs j,_=>by simp only [tr]
 | .agg cs,hx=>by simp only [tr,HY cs (by simpa only [AV.pure] using hx)]
 | .aF cs,hx=>by simp only [tr,HY cs (by simpa only [AV.pure] using hx)]
 | .fn f cs,hx=>by simp only [tr,HY cs (by simpa only [AV.pure] using hx)]
 | .own ..,hx=>by simp [AV.pure] at hx
 | .ptr ..,hx=>by simp [AV.pure] at hx
 | .rp ..,hx=>by simp [AV.pure] at hx
 | .mp ..,hx=>by simp [AV.pure] at hx
theorem HY {h:List (Nat×Ob)} {S inv:List (Nat×Nat)}:∀ (xs:List AV),dM xs=true→kH h S inv xs=some xs
 |[],_=>by simp only [kH]
 |c::cs,hx=>by
  simp only [dM,Bool.and_eq_true] at hx
  simp only [kH,ahy c hx.1,HY cs hx.2]
end
def EI (h:List (Nat×Ob)) (S inv:List (Nat×Nat)):List (Value×AV)→Option (List (Value×AV))
 |[]=>some []
 |(k,x)::l=>match tr h S inv x with
  |some y=>match EI h S inv l with
   |some l'=>some ((k,y)::l')
   |none=>none
  |none=>none
theorem ZM {h:List (Nat×Ob)} {S inv:List (Nat×Nat)}:∀ (xs ys:List (Value×AV)),EI h S inv xs=some ys→pJ h S [] ys xs
 |[],ys,e=>by simp only [EI,Option.some.injEq] at e;subst e;simp only [pJ]
 |(k,x)::l,ys,e=>by
  simp only [EI] at e
  split at e
  ·rename_i y hy
   split at e
   ·rename_i l' hl
    cases e
    simp only [pJ,true_and]
    exact ⟨EH x y hy,ZM l l' hl⟩
   ·cases e
  ·cases e
def QE (h:List (Nat×Ob)) (S inv:List (Nat×Nat)):Ob→Option Ob
 | .box cs=>match kH h S inv cs with
  |some ys=>some (.box ys)
  |none=>none
 | .row e sz xs=>some (.row e sz xs)
 | .map es=>match EI h S inv es with
  |some ys=>some (.map ys)
  |none=>none
 | .dead=>none
theorem ahz {h:List (Nat×Ob)} {S inv:List (Nat×Nat)} {x y:Ob} (e:QE h S inv x=some y):cO h S [] y x:=by
 unfold QE at e
 split at e
 ·split at e
  ·rename_i ys hy;cases e;simp only [cO];exact qY _ _ hy
  ·cases e
 ·cases e;simp only [cO,and_self]
 ·split at e
  ·rename_i ys hy;cases e;simp only [cO];exact ZM _ _ hy
  ·cases e
 ·cases e
theorem QF {h h':List (Nat×Ob)} {S:List (Nat×Nat)} {N:List Nat}:∀ (l:List (Nat×Nat)),(∀ k b,(k,b) ∈ l→∃ y x,get h' k=some y∧get h b=some x∧cO h S N y x)→dJ h S N h' l
 |[],_=>by simp only [dJ]
 |(k,b)::l,hh=>by
  obtain ⟨y,x,h1,h2,h3⟩:=hh k b (List.mem_cons_self ..)
  simp only [dJ,h1,h2]
  exact ⟨h3,QF l fun k b hm=>hh k b (List.mem_cons_of_mem _ hm)⟩
def wC:List Nat→Nat→List (Nat×Nat)
 |[],_=>[]
 |b::O,k=>(k,b)::wC O (k+1)
theorem ZN:∀ (O:List Nat) (k:Nat) (n b:Nat),(n,b) ∈ wC O k→∃ i,n=k+i∧O[i]? =some b
 |[],k,n,b,h=>by simp [wC] at h
 |a::O,k,n,b,h=>by
  simp only [wC,List.mem_cons,Prod.mk.injEq] at h
  rcases h with ⟨rfl,rfl⟩|h
  ·exact ⟨0,rfl,rfl⟩
  ·obtain ⟨i,h1,h2⟩:=ZN O (k+1) n b h
   exact ⟨i+1,by omega,by simpa using h2⟩
def exV:List Nat→Nat→List (Nat×Nat)
 |[],_=>[]
 |b::O,k=>(b,k)::exV O (k+1)
def mZ (S:List Nat):List (Nat×Nat):=S.map fun b=>(b,b)
def EJ (h:List (Nat×Ob)) (S inv:List (Nat×Nat)):Nat→Nat→Option (List (List AV))
 |_,0=>some []
 |i,m+1=>match get h i with
  |some (.box cs)=>match kH h S inv cs with
   |some ys=>match EJ h S inv (i+1) m with
    |some l=>some (ys::l)
    |none=>none
   |none=>none
  |_=>none
theorem ZO {h:List (Nat×Ob)} {S inv:List (Nat×Nat)}:∀ (m i:Nat) (l:List (List AV)),EJ h S inv i m=some l→l.length=m∧∀ k,k<m→∃ cs ys,get h (i+k)=some (.box cs)∧l[k]? =some ys∧kH h S inv cs=some ys
 |0,i,l,e=>by simp only [EJ,Option.some.injEq] at e;subst e;exact ⟨rfl,fun k hk=>absurd hk (by omega)⟩
 |m+1,i,l,e=>by
  simp only [EJ] at e
  split at e
  ·rename_i cs hg
   split at e
   ·rename_i ys hy
    split at e
    ·rename_i l' hl
     cases e
     obtain ⟨h1,h2⟩:=ZO m (i+1) l' hl
     refine ⟨by simp [h1],fun k hk=> ?_⟩
     cases k with
     |zero=>exact ⟨cs,ys,hg,rfl,hy⟩
     |succ k=>
      obtain ⟨cs',ys',h3,h4,h5⟩:=h2 k (by omega)
      exact ⟨cs',ys',by rw [show i+(k+1)=i+1+k by omega];exact h3,by simpa using h4,h5⟩
    ·cases e
   ·cases e
  ·cases e
def zT (h:List (Nat×Ob)):List Nat→Option (List Ob)
 |[]=>some []
 |b::O=>match get h b with
  |some (.row e sz xs)=>match zT h O with
   |some l=>some (.row e sz xs::l)
   |none=>none
  |some (.box cs)=>bif dM cs then match zT h O with
   |some l=>some (.box cs::l)
   |none=>none else none
  |_=>none
theorem QG {h:List (Nat×Ob)}:∀ (O:List Nat) (l:List Ob),zT h O=some l→l.length=O.length∧∀ (i b:Nat),O[i]? =some b→∃ o,l[i]? =some o∧get h b=some o∧rowOk o=true
 |[],l,e=>by simp only [zT,Option.some.injEq] at e;subst e;exact ⟨rfl,fun i b h=>by simp at h⟩
 |a::O,l,e=>by
  simp only [zT] at e
  split at e
  ·rename_i e1 sz xs hg
   split at e
   ·rename_i l' hl
    cases e
    obtain ⟨h1,h2⟩:=QG O l' hl
    refine ⟨by simp [h1],fun i b hi=> ?_⟩
    cases i with
    |zero=>simp at hi;subst hi;exact ⟨_,rfl,hg,rfl⟩
    |succ i=>simpa using h2 i b (by simpa using hi)
   ·cases e
  ·rename_i cs hg
   cases hp:dM cs with
   |false=>rw [hp] at e;cases e
   |true=>
    rw [hp] at e
    simp only [cond_true] at e
    split at e
    ·rename_i l' hl
     cases e
     obtain ⟨h1,h2⟩:=QG O l' hl
     refine ⟨by simp [h1],fun i b hi=> ?_⟩
     cases i with
     |zero=>simp at hi;subst hi;exact ⟨_,rfl,hg,hp⟩
     |succ i=>simpa using h2 i b (by simpa using hi)
    ·cases e
  ·cases e
def uN (m:Nat) (O:List Nat) (vs:List AV) (h:List (Nat×Ob)):Option (AV×List (List AV)×List Ob):=
 match tr h (mZ (List.range m)++wC O 4) (mZ (List.range m)++exV O 4) (ay vs) with
 |some r=>match EJ h (mZ (List.range m)++wC O 4) (mZ (List.range m)++exV O 4) 0 m with
  |some bs=>match zT h O with
   |some es=>bif decide (m≤4)&&okS h (mZ (List.range m)++wC O 4) [] (outs bs es) then some (r,bs,es) else none
   |none=>none
  |none=>none
 |none=>none
theorem QH {m:Nat} {O:List Nat} {vs:List AV} {t:List (Nat×AV)} {h:List (Nat×Ob)} {res:List kW} {r:AV} {bs:List (List AV)} {es:List Ob} (hv:kX t h res=some vs) (e:uN m O vs h=some (r,bs,es)):
 Fin res r bs es t h∧bs.length=m∧es.all rowOk=true:=by
 simp only [uN] at e
 split at e
 ·rename_i r' hr
  split at e
  ·rename_i bs' hb
   split at e
   ·rename_i es' he
    cases ho:(decide (m≤4)&&okS h (mZ (List.range m)++wC O 4) [] (outs bs' es')) with
    |false=>rw [ho] at e;cases e
    |true=>
     rw [ho] at e
     simp only [cond_true,Option.some.injEq,Prod.mk.injEq] at e
     obtain ⟨rfl,rfl,rfl⟩:=e
     simp only [Bool.and_eq_true,decide_eq_true_eq] at ho
     obtain ⟨hm,ho⟩:=ho
     obtain ⟨hl,hg⟩:=ZO _ _ _ hb
     obtain ⟨hl',hg'⟩:=QG _ _ he
     refine ⟨⟨_,[],vs,hv,ho,QF _ fun k b hmem=> ?_,by simp only [ja],EH _ _ hr⟩,hl,?_⟩
     ·rcases List.mem_append.1 hmem with hmem|hmem
      ·simp only [mZ,List.mem_map,List.mem_range,Prod.mk.injEq] at hmem
       obtain ⟨i,hi,rfl,rfl⟩:=hmem
       obtain ⟨cs,ys,h1,h2,h3⟩:=hg i hi
       rw [Nat.zero_add] at h1
       exact ⟨.box ys,.box cs,Cc h2,h1,qY _ _ h3⟩
      ·obtain ⟨i,rfl,hi⟩:=ZN _ _ _ _ hmem
       obtain ⟨o,h1,h2,h3⟩:=hg' i b hi
       refine ⟨o,o,GU (by omega) h1,h2,?_⟩
       cases o with
       |row e sz xs=>simp only [cO,and_self]
       |box cs=>simp only [cO];exact xW cs h3
       |map es=>simp [rowOk] at h3
       |dead=>simp [rowOk] at h3
     ·rw [List.all_eq_true]
      intro o ho'
      obtain ⟨i,hi⟩:=List.mem_iff_getElem?.1 ho'
      have hlt:=(List.getElem?_eq_some_iff.1 hi).1
      obtain ⟨o',h1,_,h3⟩:=hg' i _ (List.getElem?_eq_getElem (show i<O.length by omega))
      rw [hi] at h1
      cases h1
      exact h3
   ·cases e
  ·cases e
 ·cases e
def sU {α:Type}:List (Nat×α)→List Nat→List (Nat×α)
 |[],_=>[]
 |(k,x)::l,seen=>bif seen.contains k then sU l seen else (k,x)::sU l (k::seen)
theorem QI {α:Type}:∀ (l:List (Nat×α)) (seen:List Nat) (k:Nat) (x:α),(k,x) ∈ sU l seen→get l k=some x∧seen.contains k=false
 |[],seen,k,x,h=>by simp [sU] at h
 |(a,y)::l,seen,k,x,h=>by
  simp only [sU] at h
  cases hc:seen.contains a with
  |true=>
   rw [hc] at h
   simp only [cond_true] at h
   obtain ⟨h1,h2⟩:=QI l seen k x h
   have:a≠k:=by intro e;subst e;rw [hc] at h2;cases h2
   exact ⟨by rw [jK _ _ _ _ this];exact h1,h2⟩
  |false=>
   rw [hc] at h
   simp only [cond_false,List.mem_cons,Prod.mk.injEq] at h
   rcases h with ⟨rfl,rfl⟩|h
   ·exact ⟨o6 _ _ _,hc⟩
   ·obtain ⟨h1,h2⟩:=QI l (a::seen) k x h
    simp only [List.contains_cons,Bool.or_eq_false_iff,beq_eq_false_iff_ne,ne_eq] at h2
    exact ⟨by rw [jK _ _ _ _ (fun e=>h2.1 e.symm)];exact h1,h2.2⟩
def yg (Z:List Nat):List (Nat×Ob)→List Nat
 |[]=>[]
 |(_,.dead)::l=>yg Z l
 |(k,_)::l=>bif Z.contains k then yg Z l else k::yg Z l
def H6 (h:List (Nat×Ob)) (S:List (Nat×Nat)):List Nat→Option (List (Nat×Ob))
 |[]=>some []
 |b::l=>match get h b with
  |some o=>match QE h S S o with
   |some y=>match H6 h S l with
    |some h'=>some ((b,y)::h')
    |none=>none
   |none=>none
  |none=>none
theorem ZP {h:List (Nat×Ob)} {S:List (Nat×Nat)}:∀ (L:List Nat) (h':List (Nat×Ob)),H6 h S L=some h'→∀ b ∈ L,∃ y x,get h' b=some y∧get h b=some x∧cO h S [] y x
 |[],h',e,b,hb=>by simp at hb
 |a::l,h',e,b,hb=>by
  simp only [H6] at e
  split at e
  ·rename_i x hg
   split at e
   ·rename_i y hy
    split at e
    ·rename_i h0 hl
     cases e
     by_cases hab:a=b
     ·subst hab;exact ⟨y,x,o6 _ _ _,hg,ahz hy⟩
     ·have hb':b ∈ l:=by
       rcases List.mem_cons.1 hb with h|h
       ·exact absurd h.symm hab
       ·exact h
      obtain ⟨y',x',h1,h2,h3⟩:=ZP l h0 hl b hb'
      exact ⟨y',x',by rw [jK _ _ _ _ hab];exact h1,h2,h3⟩
    ·cases e
   ·cases e
  ·cases e
def CO (h:List (Nat×Ob)) (S:List (Nat×Nat)):List (Nat×AV)→List (Nat×AV)
 |[]=>[]
 |(k,x)::l=>match tr h S S x with
  |some y=>(k,y)::CO h S l
  |none=>CO h S l
theorem QJ {h:List (Nat×Ob)} {S:List (Nat×Nat)} {t:List (Nat×AV)}:∀ (l:List (Nat×AV)),(∀ k x,(k,x) ∈ l→get t k=some x)→gU h S [] t (CO h S l)
 |[],_=>by simp only [CO,gU]
 |(k,x)::l,hh=>by
  simp only [CO]
  split
  ·rename_i y hy
   simp only [gU,hh k x (List.mem_cons_self ..)]
   exact ⟨EH _ _ hy,QJ l fun k x hm=>hh k x (List.mem_cons_of_mem _ hm)⟩
  ·exact QJ l fun k x hm=>hh k x (List.mem_cons_of_mem _ hm)
def EK (Z:List Nat) (t:List (Nat×AV)) (h:List (Nat×Ob)):Option (List (Nat×AV)×List (Nat×Ob)):=
 match H6 h (mZ (yg Z (sU h []))) (yg Z (sU h [])) with
 |some h'=>bif okS h (mZ (yg Z (sU h []))) [] h' then some (CO h (mZ (yg Z (sU h []))) (sU t []),h') else none
 |none=>none
theorem ZQ {Z:List Nat} {t t':List (Nat×AV)} {h h':List (Nat×Ob)} (e:EK Z t h=some (t',h')):DV t h t' h':=by
 simp only [EK] at e
 generalize yg Z (sU h [])=S at e
 split at e
 ·rename_i h0 hh
  cases ho:okS h (mZ S) [] h0 with
  |false=>rw [ho] at e;cases e
  |true=>
   rw [ho] at e
   simp only [cond_true,Option.some.injEq,Prod.mk.injEq] at e
   obtain ⟨rfl,rfl⟩:=e
   refine DV.mk (mZ S) (by simp [mZ]) ho (QF _ fun k b hm=> ?_) (QJ _ fun k x hm=>(QI _ _ _ _ hm).1)
   simp only [mZ,List.mem_map,Prod.mk.injEq] at hm
   obtain ⟨i,hi,rfl,rfl⟩:=hm
   exact ZP _ _ hh i hi
 ·cases e
theorem ahA {Z:List Nat} {n:Nat} {t t':List (Nat×AV)} {h h':List (Nat×Ob)} (e:EK Z t h=some (t',h')):Wk ⟨n,t,h⟩ ⟨n,t',h'⟩:=by
 intro C ρ U a w hR hU
 obtain ⟨ρ',U',h1,h2⟩:=ZQ e C ρ U a w ⟨hR.hr,hR.defers,hR.sz,hR.tm⟩
 exact ⟨ρ',U',⟨h1.hr,h1.defers,h1.sz,h1.tm⟩,fun b hb=>hU b (h2 b hb)⟩
end Go.Eng
namespace Go.Eng
open Go
abbrev RunT:=FuncId→List AV→List (List AV)→List Ob→Option (List AV×List (Nat×Ob))
def qZ (P:Program) (run:RunT):Prop:=∀ f xs bs gs vs h,run f xs bs gs=some (vs,h)→∃ t res,kX t h res=some vs∧∀ r bs' es,Fin res r bs' es t h→lW P f xs bs gs r bs' es
theorem lW.H7 {P:Program} {f:FuncId} {xs:List AV} {bs bs':List (List AV)} {r:AV} {es:List Ob} (hF:lW P f xs bs [] r bs' es):Fn P f xs bs r bs' es:=
 ⟨hF.1,fun C ρ U w vals hr hU hv=>hF.2 C ρ U w vals (by simpa [outs,dP] using hr) (fun b hb=>by have:=hU b hb;omega) hv⟩
def QK (h:List (Nat×Ob)) (L:List Nat):List Nat:=L.filter fun b=>match get h b with
 |some (.box _)=>true
 |_=>false
def QL (h:List (Nat×Ob)) (L:List Nat):List Nat:=L.filter fun b=>match get h b with
 |some (.row _ _ _)=>true
 |_=>false
def cont (h:List (Nat×Ob)) (B:List Nat):List Nat:=B.flatMap fun b=>match get h b with
 |some (.box cs)=>dR cs
 |_=>[]
def ahB (h:List (Nat×Ob)) (ys:List AV):List Nat:=
 let B:=(QK h (dR ys)).eraseDups
 match B with
 |[]=>[]
 |B=>let B:=(B++QK h (cont h B)).eraseDups
  (B++QK h (cont h B)).eraseDups
def uO (m:Nat):List AV→List Nat
 |[]=>[]
 | .own b _ _ _::l=>b::uO m l
 | .ptr b _::l=>bif Nat.blt b m then uO m l else b::uO m l
 |_::l=>uO m l
def yh:List AV→List Nat
 |[]=>[]
 | .own b _ _ _::l=>b::yh l
 |_::l=>yh l
def CP:Ob→Bool
 | .row _ _ xs=>xs.all kG
 | .box cs=>kG cs
 |_=>false
theorem QM:∀ (cs:List AV),kG cs=true→∀ c ∈ cs,na c=true
 |[],_,c,h=>by simp at h
 |x::cs,hh,c,h=>by
  simp only [kG,Bool.and_eq_true] at hh
  rcases List.mem_cons.1 h with rfl|h
  ·exact hh.1
  ·exact QM cs hh.2 c h
theorem ahC {o:Ob} (h:CP o=true):oC o:=by
 cases o with
 |row e sz xs=>
  simp only [CP,List.all_eq_true] at h
  exact fun x hx c hc=>QM x (h x hx) c hc
 |box cs=>exact QM cs h
 |map es=>simp [CP] at h
 |dead=>simp [CP] at h
def zU (Bx:List (Nat×List AV)):List (Nat×Ob):=Bx.map fun p=>(p.1,Ob.box p.2)
section
variable {C:Ctx} {ρ:Nat→Loc} {U:Nat→Prop} {h:List (Nat×Ob)} {w:World}
theorem ZR (hr:HR C ρ U h w) (Z:List Nat):fA ρ (stay h Z) []=gX ρ Z:=by
 funext k
 simp only [fA,Cf,gX]
 by_cases hkz:k ∈ Z
 ·simp [hkz]
 ·by_cases hkh:k ∈ h.map Prod.fst
  ·rw [if_pos ⟨hkh,hkz⟩,if_neg hkz]
  ·rw [if_neg (fun h=>hkh h.1),if_neg hkz]
   have:get h k=none:=by
    cases hg:get h k with
    |none=>rfl
    |some o=>exact absurd (List.mem_map.2 ⟨_,get_mem hg,rfl⟩) hkh
   rw [hr.hd k this];simp
theorem ZT (hr:HR C ρ U h w) (Z:List Nat):∀ k,mY (stay h Z) [] k→U k:=by
 intro k hk
 rcases hk with hk|hk
 ·obtain ⟨c,hc⟩:=xQ hk
  rw [Cf] at hc
  split at hc
  ·rename_i h1
   obtain ⟨o,ho⟩:=xQ h1.1
   exact (hr.hp k o ho).1
  ·cases hc
 ·simp at hk
theorem HR.ZU (hr:HR C ρ U h w) (Z:List Nat):∀ (Bx:List (Nat×List AV)) (U1:Nat→Prop) (h1:List (Nat×Ob)),(∀ p ∈ Bx,p.1 ∉ Z∧∃ cs,get h p.1=some (.box cs)∧au h (stay h Z) [] p.2 cs)→
 (∀ k,U1 k→U k)→(∀ k,U k→U1 k)→HR C (gX ρ Z) U1 h1 w→∃ U2,(∀ k,U2 k→U k)∧(∀ k,U k→U2 k)∧HR C (gX ρ Z) U2 (zU Bx++h1) w
 |[],U1,h1,_,xX,xY,hr1=>⟨U1,xX,xY,hr1⟩
 |(b,ds)::Bx,U1,h1,hB,xX,xY,hr1=>by
  obtain ⟨U2,hu1,hu2,hr2⟩:=HR.ZU hr Z Bx U1 h1 (fun p hp=>hB p (List.mem_cons_of_mem _ hp)) xX xY hr1
  obtain ⟨ZV,cs,hg,hv⟩:=hB (b,ds) (List.mem_cons_self ..)
  simp only at ZV hg hv
  obtain ⟨hub,g,o,n,e,cells,h1',h2',h3',h4',h5'⟩:=hr.hp b _ hg
  have hkl:gX ρ Z b=ρ b:=by unfold gX;rw [if_neg ZV]
  have hm:Moved C (gX ρ Z) U2 (zU Bx++h1) w b (gX ρ Z b) w:=⟨rfl,rfl,rfl,Nat.le_refl _,fun _ _ _=>rfl,.inl ⟨hu2 _ hub,rfl⟩⟩
  have hup:up (gX ρ Z) b (gX ρ Z b)=gX ρ Z:=by
   funext k
   unfold up
   by_cases e:k=b
   ·rw [if_pos e,e]
   ·rw [if_neg e]
  have hl:=jB _ _ hv
  have:=hm.hr hr2 (ob:= .box ds) (fun _=>⟨ds,rfl⟩) (by
   rw [hup,hkl]
   refine ⟨g,o,n,e,cells,h1',h2',h3',by omega,fun j c hj=> ?_⟩
   obtain ⟨x,hx,hxv⟩:=jC _ _ hv j c hj
   obtain ⟨u,hu,huv⟩:=h5' j x hx
   have:=pM hr huv c hxv
   rw [ZR hr Z] at this
   exact ⟨u,hu,this.mono (fun _ h=>h) (fun _ _=>rfl) (fun k hk=> .inl (hu2 _ (ZT hr Z k hk))) (fun _ _=> .inl rfl)⟩)
  rw [hup] at this
  refine ⟨iY U2 b,fun k hk=> ?_,fun k hk=> .inl (hu2 k hk),this⟩
  rcases hk with hk|rfl
  ·exact hu1 k hk
  ·exact hub
theorem ahD {P:Program} {nm:Nat} {f:FuncId} {args args':List AV} {Q:AV→List (Nat×Ob)→Prop} (Z:List Nat) (Bx:List (Nat×List AV))
 (hz:∀ b ∈ Z,∃ e sz xs,get h b=some (.row e sz xs)) (hB:∀ p ∈ Bx,p.1 ∉ Z∧∃ cs,get h p.1=some (.box cs)∧au h (stay h Z) [] p.2 cs)
 (ha:au h (stay h Z) [] args' args) (hk:uy P nm f args' (zU Bx++(kills Z++h)) Q):uy P nm f args h Q:=by
 refine ⟨hk.1,fun C ρ U w vals hr hU hv=> ?_⟩
 obtain ⟨U0,xX,xY,hr0⟩:=hr.kills Z hz
 obtain ⟨U',hV1,hV2,hr'⟩:=HR.ZU hr Z Bx U0 _ hB xX xY hr0
 have qQ:Later U ρ (gX ρ Z):=fun b _=>by
  unfold gX
  by_cases e:b ∈ Z
  ·rw [if_pos e];exact .inr rfl
  ·rw [if_neg e];exact .inl rfl
 have Qu:∀ g,aQ C ρ w g→aQ C (gX ρ Z) w g:=fun g hg=>⟨hg.1,hg.2.1,fun ⟨b,o,n,hb⟩=>by
  unfold gX at hb
  split at hb
  ·cases hb
  ·exact hg.2.2 ⟨b,o,n,hb⟩⟩
 have hl:=jB _ _ ha
 have hv':VL w (aQ C (gX ρ Z) w) (gX ρ Z) U' args' vals:=by
  refine ⟨by rw [hl];exact hv.1,fun i x u hi hu=> ?_⟩
  obtain ⟨y,hy,hxy⟩:=jC _ _ ha i x hi
  have:=pM hr (hv.2 i y u hy hu) x hxy
  rw [ZR hr Z] at this
  exact this.mono (fun _ h=>h) (fun _ _=>rfl) (fun k hk=>hV2 k (ZT hr Z k hk)) (fun _ _=> .inl rfl)
 refine (hk.2 C (gX ρ Z) U' w vals hr' (fun b hb=>hU b (hV1 b hb)) hv').mono fun e w' hpost=> ?_
 obtain ⟨v,r,h',ρ',zy,rfl,h1,h2,h3,h4,h5⟩:=hpost
 exact ⟨v,r,h',ρ',zy,rfl,h1,h2,fun x u hx=>h3 x u (hx.mono Qu (fun _ _=>rfl) hV2 qQ),fun b hb=>(h4 b hb).imp (hV1 b) id,h5⟩
end
theorem H8 {h:List (Nat×Ob)} {Z:List Nat} {k b:Nat} (e:get (stay h Z) k=some b):k=b∧k ∉ Z∧∃ o,get h k=some o:=by
 rw [Cf] at e
 split at e
 ·rename_i h1
  cases e
  exact ⟨rfl,h1.2,xQ h1.1⟩
 ·cases e
theorem EL {h:List (Nat×Ob)} {Z:List Nat} {k:Nat} {o:Ob} (e:get h k=some o) (hz:k ∉ Z):get (stay h Z) k=some k:=by
 rw [Cf,if_pos ⟨List.mem_map.2 ⟨_,get_mem e,rfl⟩,hz⟩]
theorem ZW {h:List (Nat×Ob)} {Z:List Nat} {b:Nat}:b ∈ (stay h Z).map Prod.snd→b ∉ Z:=by
 intro hm
 simp only [stay,List.map_map,List.mem_map,List.mem_filter,Function.comp] at hm
 obtain ⟨a,⟨_,h2⟩,rfl⟩:=hm
 simpa using h2
theorem ZX {h:List (Nat×Ob)} {Z:List Nat} {b:Nat} {o:Ob} (e:get h b=some o) (hn:b ∉ (stay h Z).map Prod.snd):b ∈ Z:=by
 apply Classical.byContradiction
 intro hz
 refine hn ?_
 have:=get_mem (EL e hz)
 exact List.mem_map.2 ⟨_,this,rfl⟩
mutual
theorem ahE {h h':List (Nat×Ob)} {Z:List Nat}:∀ (y x:AV),(∀ b ∈ deep x,get h' b=get h b)→rv h (stay h Z) [] y x→rv h' (stay h' Z) [] y x
 | .own k sz off len,x,hh,hx=>by
  cases x<;>simp only [rv] at hx ⊢
  ·split at hx
   ·rename_i heq;cases heq
   ·rename_i heq;cases heq;exact absurd hx.1 (by simp)
   ·exact hx.elim
  ·rename_i b sz' off' len'
   obtain ⟨h1,h2⟩:=hx
   obtain ⟨rfl,h3,o,h4⟩:=H8 h1
   exact ⟨EL (by rw [hh _ (by simp [deep])];exact h4) h3,h2⟩
 | .ptr k j,x,hh,hx=>by
  cases x<;>simp only [rv] at hx ⊢
  obtain ⟨h1,h2⟩:=hx
  obtain ⟨rfl,h3,o,h4⟩:=H8 h1
  exact ⟨EL (by rw [hh _ (by simp [deep])];exact h4) h3,h2⟩
 | .rp k sz i j,x,hh,hx=>by
  cases x<;>simp only [rv] at hx ⊢
  obtain ⟨h1,h2⟩:=hx
  obtain ⟨rfl,h3,o,h4⟩:=H8 h1
  exact ⟨EL (by rw [hh _ (by simp [deep])];exact h4) h3,h2⟩
 | .mp k,x,hh,hx=>by
  cases x<;>simp only [rv] at hx ⊢
  obtain ⟨rfl,h3,o,h4⟩:=H8 hx
  exact EL (by rw [hh _ (by simp [deep])];exact h4) h3
 | .sl sz ys,x,hh,hx=>by
  cases x<;>simp only [rv] at hx ⊢
  ·split at hx
   ·rename_i heq;cases heq
   ·rename_i heq;cases heq;exact hx
   ·rename_i heq;cases heq
   ·exact hx.elim
  ·exact hx
  ·rename_i b sz' off' len'
   obtain ⟨h1,h2,h3⟩:=hx
   rw [hh b (by simp [deep])]
   refine ⟨fun hm=> ?_,h2,h3⟩
   split at h3
   ·rename_i e sz2 xs hg;exact ZW hm (ZX hg h1)
   ·exact h3
 | .dU cs j,x,hh,hx=>by
  cases x<;>simp only [rv] at hx ⊢
  ·rename_i b sz' i' j'
   obtain ⟨h1,h2,h3⟩:=hx
   rw [hh b (by simp [deep])]
   refine ⟨fun hm=> ?_,h2,h3⟩
   split at h3
   ·rename_i e sz2 xs hg;exact ZW hm (ZX hg h1)
   ·exact h3
  ·exact hx
 | .agg ys,x,hh,hx=>by
  cases x<;>simp only [rv] at hx ⊢
  exact CQ ys _ (by simpa only [deep] using hh) hx
 | .aF ys,x,hh,hx=>by
  cases x<;>simp only [rv] at hx ⊢
  exact CQ ys _ (by simpa only [deep] using hh) hx
 | .fn f ys,x,hh,hx=>by
  cases x<;>simp only [rv] at hx ⊢
  exact ⟨hx.1,CQ ys _ (by simpa only [deep] using hh) hx.2⟩
 | .v a,x,hh,hx=>by simp only [rv] at hx ⊢;exact hx
theorem CQ {h h':List (Nat×Ob)} {Z:List Nat}:∀ (ys xs:List AV),(∀ b ∈ dR xs,get h' b=get h b)→au h (stay h Z) [] ys xs→au h' (stay h' Z) [] ys xs
 |[],[],_,_=>by simp only [au]
 |y::ys,x::xs,hh,hx=>by
  simp only [au] at hx ⊢
  simp only [dR,List.mem_append] at hh
  exact ⟨ahE y x (fun b hb=>hh b (.inl hb)) hx.1,CQ ys xs (fun b hb=>hh b (.inr hb)) hx.2⟩
 |[],_::_,_,hx=>by simp [au] at hx
 |_::_,[],_,hx=>by simp [au] at hx
end
def EM (h:List (Nat×Ob)) (S:List (Nat×Nat)):List Nat→Option (List (Nat×List AV))
 |[]=>some []
 |b::B=>match get h b with
  |some (.box cs)=>match kH h S S cs with
   |some ds=>match EM h S B with
    |some l=>some ((b,ds)::l)
    |none=>none
   |none=>none
  |_=>none
theorem ZY {h:List (Nat×Ob)} {S:List (Nat×Nat)}:∀ (B:List Nat) (Bx:List (Nat×List AV)),EM h S B=some Bx→∀ p ∈ Bx,p.1 ∈ B∧∃ cs,get h p.1=some (.box cs)∧au h S [] p.2 cs
 |[],Bx,e,p,hp=>by simp only [EM,Option.some.injEq] at e;subst e;simp at hp
 |b::B,Bx,e,p,hp=>by
  simp only [EM] at e
  split at e
  ·rename_i cs hg
   split at e
   ·rename_i ds hd
    split at e
    ·rename_i l hl
     cases e
     rcases List.mem_cons.1 hp with rfl|hp
     ·exact ⟨List.mem_cons_self ..,cs,hg,qY _ _ hd⟩
     ·obtain ⟨h1,h2⟩:=ZY B l hl p hp
      exact ⟨List.mem_cons_of_mem _ h1,h2⟩
    ·cases e
   ·cases e
  ·cases e
def EN (h:List (Nat×Ob)) (S inv:List (Nat×Nat)):List Nat→Option (List (List AV))
 |[]=>some []
 |b::B=>match get h b with
  |some (.box cs)=>match kH [] S inv cs with
   |some ds=>match EN h S inv B with
    |some l=>some (ds::l)
    |none=>none
   |none=>none
  |_=>none
theorem Z4 {h:List (Nat×Ob)} {S inv:List (Nat×Nat)}:∀ (B:List Nat) (bs:List (List AV)),EN h S inv B=some bs→iK h S B bs
 |[],bs,e=>by simp only [EN,Option.some.injEq] at e;subst e;simp only [iK]
 |b::B,bs,e=>by
  simp only [EN] at e
  split at e
  ·rename_i cs hg
   split at e
   ·rename_i ds hd
    split at e
    ·rename_i l hl
     cases e
     simp only [iK,hg]
     exact ⟨qY _ _ hd,Z4 B l hl⟩
    ·cases e
   ·cases e
  ·cases e
def EO (h:List (Nat×Ob)):List Nat→Option (List Ob)
 |[]=>some []
 |b::G=>match get h b with
  |some (.row e sz xs)=>match EO h G with
   |some l=>some (.row e sz xs::l)
   |none=>none
  |_=>none
theorem Z5 {h:List (Nat×Ob)}:∀ (G:List Nat) (gs:List Ob),EO h G=some gs→iL h G gs
 |[],gs,e=>by simp only [EO,Option.some.injEq] at e;subst e;simp only [iL]
 |b::G,gs,e=>by
  simp only [EO] at e
  split at e
  ·rename_i e1 sz xs hg
   split at e
   ·rename_i l hl
    cases e
    simp only [iL,hg,isRow,and_self,true_and]
    exact Z5 G l hl
   ·cases e
  ·cases e
def EP (S inv:List (Nat×Nat)):List (List AV)→Option (List (List AV))
 |[]=>some []
 |c::l=>match kH [] S inv c with
  |some c'=>match EP S inv l with
   |some l'=>some (c'::l')
   |none=>none
  |none=>none
theorem Z7 {S inv:List (Nat×Nat)}:∀ (l l':List (List AV)),EP S inv l=some l'→jE S l' l
 |[],l',e=>by simp only [EP,Option.some.injEq] at e;subst e;simp only [jE]
 |c::l,l',e=>by
  simp only [EP] at e
  split at e
  ·rename_i c' hc
   split at e
   ·rename_i l0 hl
    cases e
    simp only [jE]
    exact ⟨qY _ _ hc,Z7 l l0 hl⟩
   ·cases e
  ·cases e
theorem Z8 {S:List (Nat×Nat)}:∀ (es:List Ob),es.all rowOk=true→jF S es es
 |[],_=>by simp only [jF]
 |o::es,h=>by
  simp only [List.all_cons,Bool.and_eq_true] at h
  simp only [jF]
  refine ⟨?_,Z8 es h.2⟩
  cases o with
  |row e sz xs=>simp only [cO,and_self]
  |box cs=>simp only [cO];exact xW cs h.1
  |map es=>simp [rowOk] at h
  |dead=>simp [rowOk] at h
def invS (B G:List Nat):List (Nat×Nat):=exV B 0++exV G 4
def Z9 (B:List Nat) (nm m:Nat):List (Nat×Nat):=(List.range B.length).map (fun i=>(i,B[i]?.getD 0))++(List.range m).map (fun i=>(4+i,nm+i))
def EQ (tl:List AV→List Nat) (run:RunT) (nm:Nat) (h:List (Nat×Ob)) (f:FuncId) (ys:List AV) (B G Z:List Nat):Option Rec:=
 match kH h (stay h Z) (stay h Z) ys with
 |some ys1=>
  match EM h (stay h Z) B with
  |some Bx=>match kH [] (dZ B G) (invS B G) ys1 with
   |some xs=>match EN (zU Bx++(kills Z++h)) (dZ B G) (invS B G) B with
    |some bs=>match EO (zU Bx++(kills Z++h)) G with
     |some gs=>match run f xs bs gs with
      |some (vs,h')=>match uN B.length (tl vs).eraseDups vs h' with
       |some (r,bs',es)=>match tr [] (jP B nm es.length) (Z9 B nm es.length) r with
        |some r'=>match EP (jP B nm es.length) (Z9 B nm es.length) bs' with
         |some cs'=>bif (decide (B.length≤4)&&(decide (G.length≤4)&&(decide ((B++G).Nodup)&&(decide (bs'.length=B.length)&&decide (es.length≤8)))))&&(qV h Z&&B.all (fun b=> !Z.contains b)) then
          some ⟨r',(dP nm es++(iJ B cs'++kills G))++(zU Bx++kills Z),dR ys++(B++(G++(Z++cont h B)))⟩ else none
         |none=>none
        |none=>none
       |none=>none
      |none=>none
     |none=>none
    |none=>none
   |none=>none
  |none=>none
 |none=>none
theorem ahG {h h':List (Nat×Ob)} {a c:List (Nat×Ob)} {b:Nat} (e:get h' b=get h b):get (a++(c++h')) b=get (a++(c++h)) b:=by
 simp only [get_append,e]
theorem QN {P:Program} {tl:List AV→List Nat} {run:RunT} (hrun:qZ P run) {nm:Nat} {h:List (Nat×Ob)} {f:FuncId} {ys:List AV} {B G Z:List Nat} {r:Rec} (e:EQ tl run nm h f ys B G Z=some r):lQ P nm f ys h r:=by
 simp only [EQ] at e
 split at e
 ·rename_i ys1 hy
  split at e
  ·rename_i Bx hb
   split at e
   ·rename_i xs hx
    split at e
    ·rename_i bs hbs
     split at e
     ·rename_i gs hgs
      split at e
      ·rename_i vs h1 hr
       split at e
       ·rename_i r0 bs' es hF
        split at e
        ·rename_i r' hr'
         split at e
         ·rename_i cs' hcs
          obtain ⟨t,res,hv,hrun'⟩:=hrun _ _ _ _ _ _ hr
          obtain ⟨QO,hl,hes⟩:=QH hv hF
          have hFn:=hrun' _ _ _ QO
          generalize hd:((decide (B.length≤4)&&(decide (G.length≤4)&&(decide ((B++G).Nodup)&&(decide (bs'.length=B.length)&&decide (es.length≤8)))))&&(qV h Z&&B.all (fun b=> !Z.contains b)))=q at e
          cases q with
          |false=>cases e
          |true=>
           simp only [cond_true,Option.some.injEq] at e
           subst e
           obtain ⟨hd1,ahH⟩:=(Bool.and_eq_true _ _).mp hd
           obtain ⟨hd2,hd3⟩:=(Bool.and_eq_true _ _).mp ahH
           have hC:=hFn.vY (nm:=nm) (h:=zU Bx++(kills Z++h)) B G r' cs' es (qY _ _ hx) (Z4 _ _ hbs) (Z5 _ _ hgs) hd1 (Z7 _ _ hcs) (Z8 es hes) (EH _ _ hr')
           intro h' hh Q hQ
           have hbz:∀ b ∈ B,b ∉ Z:=fun b hb hz=>by
            have:=List.all_eq_true.1 hd3 b hb
            simp [hz] at this
           refine ahD Z Bx (fun b hbz=> ?_) (fun p hp=> ?_) (CQ _ _ (fun b hb=>hh b (by simp [hb])) (qY _ _ hy)) ?_
           ·obtain ⟨e1,sz,QR,hx1⟩:=Hg _ hd2 b hbz
            exact ⟨e1,sz,QR,by rw [hh b (by simp [hbz])];exact hx1⟩
           ·obtain ⟨h2,cs,h3,h4⟩:=ZY _ _ hb p hp
            refine ⟨hbz _ h2,cs,by rw [hh p.1 (by simp [h2])];exact h3,CQ _ _ (fun b hb=>hh b ?_) h4⟩
            have:b ∈ cont h B:=by
             simp only [cont,List.mem_flatMap]
             exact ⟨p.1,h2,by rw [h3];exact hb⟩
            simp [this]
           ·refine hC _ (fun b hb=>ahG (hh b ?_)) Q ?_
            ·rcases List.mem_append.1 hb with hb|hb<;>simp [hb]
            ·simpa only [List.append_assoc] using hQ
         ·cases e
        ·cases e
       ·cases e
      ·cases e
     ·cases e
    ·cases e
   ·cases e
  ·cases e
 ·cases e
def rf (run:RunT) (nm:Nat) (h:List (Nat×Ob)) (f:FuncId) (ys:List AV):Option Rec:=
 bif dM ys then (match run f ys [] [] with
  |some (vs,h')=>match uN 0 (uO 0 vs).eraseDups vs h' with
   |some (r,_,es)=>bif decide (es.length≤8)&&fM es.length r then some ⟨sh nm r,dP nm es,[]⟩ else none
   |none=>none
  |none=>none)
 else match ahB h ys with
 |[]=>match kH h [] [] ys with
  |some xs=>match run f xs [] [] with
   |some (vs,h')=>match uN 0 (uO 0 vs).eraseDups vs h' with
    |some (r,_,es)=>bif decide (es.length≤8)&&fM es.length r then
     (bif na r&&es.all CP then some ⟨sh nm r,dP nm es,dR ys⟩
      else bif qV h (dR ys)&&dM xs then some ⟨sh nm r,dP nm es++kills (dR ys),dR ys⟩ else none)
     else none
    |none=>none
   |none=>EQ (uO 0) run nm h f ys [] (yh ys).eraseDups ((QL h (dR ys)).filter fun b=> !(yh ys).contains b)
  |none=>none
 |B=>match EQ (uO B.length) run nm h f ys B [] (QL h (dR ys++cont h B)).eraseDups with
  |some r=>some r
  |none=>bif (yh ys).isEmpty then none else EQ (uO B.length) run nm h f ys B (yh ys).eraseDups ((QL h (dR ys++cont h B)).eraseDups.filter fun b=> !(yh ys).contains b)
theorem sV {P:Program} {run:RunT} (hrun:qZ P run) {nm:Nat} {h:List (Nat×Ob)} {f:FuncId} {ys:List AV} {r:Rec} (e:rf run nm h f ys=some r):lQ P nm f ys h r:=by
 have hfn:∀ {xs:List AV} {vs:List AV} {h':List (Nat×Ob)} {r0:AV} {bs:List (List AV)} {es:List Ob} {O:List Nat},run f xs [] []=some (vs,h')→uN 0 O vs h'=some (r0,bs,es)→Fn P f xs [] r0 [] es∧es.all rowOk=true:=by
  intro xs vs h' r0 bs es O hr hF
  obtain ⟨t,res,hv,hrun'⟩:=hrun _ _ _ _ _ _ hr
  obtain ⟨QO,hl,hes⟩:=QH hv hF
  have hb0:bs=[]:=List.length_eq_zero_iff.1 hl
  subst hb0
  exact ⟨(hrun' _ _ _ QO).H7,hes⟩
 unfold rf at e
 cases hp:dM ys with
 |true=>
  rw [hp] at e
  simp only [cond_true] at e
  split at e
  ·rename_i vs h' hr
   split at e
   ·rename_i r0 bs es hF
    obtain ⟨hFn,hes⟩:=hfn hr hF
    cases hc:(decide (es.length≤8)&&fM es.length r0) with
    |false=>rw [hc] at e;cases e
    |true=>
     rw [hc] at e
     simp only [cond_true,Option.some.injEq] at e
     subst e
     simp only [Bool.and_eq_true,decide_eq_true_eq] at hc
     exact hFn.Hl hp hes hc.1 hc.2
   ·cases e
  ·cases e
 |false=>
  rw [hp] at e
  simp only [cond_false] at e
  split at e
  ·split at e
   ·rename_i xs hx
    split at e
    ·rename_i vs h' hr
     split at e
     ·rename_i r0 bs es hF
      obtain ⟨hFn,hes⟩:=hfn hr hF
      have ha:au h [] [] xs ys:=qY ys xs hx
      cases hc:(decide (es.length≤8)&&fM es.length r0) with
      |false=>rw [hc] at e;cases e
      |true=>
       rw [hc] at e
       simp only [cond_true] at e
       simp only [Bool.and_eq_true,decide_eq_true_eq] at hc
       cases hn:(na r0&&es.all CP) with
       |true=>
        rw [hn] at e
        simp only [cond_true,Option.some.injEq] at e
        subst e
        simp only [Bool.and_eq_true,List.all_eq_true] at hn
        exact hFn.En nm ha hes (fun o ho=>ahC (hn.2 o ho)) hc.1 hc.2 hn.1
       |false=>
        rw [hn] at e
        simp only [cond_false] at e
        cases hz:(qV h (dR ys)&&dM xs) with
        |false=>rw [hz] at e;cases e
        |true=>
         rw [hz] at e
         simp only [cond_true,Option.some.injEq] at e
         subst e
         simp only [Bool.and_eq_true] at hz
         intro h2 hh Q hQ
         refine Zk (dR ys) (fun b hb=> ?_) (Ci (h:=h) hh xs ys (fun b hb=>hb) ha) ?_
         ·obtain ⟨e1,sz,QR,hx1⟩:=Hg _ hz.1 b hb
          exact ⟨e1,sz,QR,by rw [hh b hb];exact hx1⟩
         ·exact (hFn.Hl (h:=kills (dR ys)++h2) hz.2 hes hc.1 hc.2) _ (fun _ _=>rfl) Q (by simpa only [List.append_assoc] using hQ)
     ·cases e
    ·exact QN hrun e
   ·cases e
  ·split at e
   ·rename_i r1 hr1
    cases e
    exact QN hrun hr1
   ·generalize (yh ys).isEmpty=q at e
    cases q with
    |true=>cases e
    |false=>exact QN hrun e
end Go.Eng
