/-
  Part of a proof: lemmas and definitions of this work.
  No condition.
-/
import Derived.Test.YtpfhpakpcjfopaaGreatI01
import Derived.Test.YtpfhpakpcjfopaaGreatI00
import Derived.WalkSpells
set_option linter.all false
set_option maxRecDepth 100000
set_option maxHeartbeats 8000000
namespace Go.Eng
open Go
section
variable {P:Program} {C:Ctx} {ρ:Nat->Loc} {U:Nat->Prop} {h:List (Nat×Ob)} {w:World} {nm:Nat} {t:List (Nat×AV)} {a:Act} {o:Oper} {e:E}
structure sI (w:World) (ok:Nat->Prop) (sz:Nat) (xs:List (List AV)) (cells:Array Value):Prop where
 size:cells.size=xs.length*sz
 el:∀ (k:Nat) (x:List AV),xs[k]? =some x->x.length=sz
 rel:∀ (k:Nat) (x:List AV) (j:Nat) (c:AV),xs[k]? =some x->x[j]? =some c->∃ q,cells[k*sz+j]? =some q/\q.oneCell'=true/\VP w ok c q
theorem sI.set {ok:Nat->Prop} {sz:Nat} {xs:List (List AV)} {cells vs:Array Value} {i:Nat} {y:List AV} (hR:sI w ok sz xs cells) (hi:i<xs.length) (hl:y.length=sz) (hv:vs.size=sz)
  (hone:∀ (j:Nat) (v:Value),vs[j]? =some v->v.oneCell'=true) (hvp:∀ (j:Nat) (c:AV) (v:Value),y[j]? =some c->vs[j]? =some v->VP w ok c v):sI w ok sz (xs.set i y) (pasted cells (i*sz) vs):=by
 have hfit:i*sz+vs.size<=cells.size:=by
  rw [hv,hR.size]
  have:(i+1)*sz<=xs.length*sz:=Nat.mul_le_mul_right _ hi
  rw [Nat.add_mul,Nat.one_mul] at this
  exact this
 refine ⟨by rw [jb _ _ _ hfit,hR.size];simp,fun k x hk=> ?_,fun k x j c hk hj=> ?_⟩
 ·by_cases hik:i=k
  ·subst hik
   rw [List.getElem?_set_self hi] at hk
   cases hk;exact hl
  ·rw [List.getElem?_set_ne hik] at hk
   exact hR.el k x hk
 ·rw [iC _ _ _ hfit]
  by_cases hik:i=k
  ·subst hik
   rw [List.getElem?_set_self hi] at hk
   cases hk
   have hjl:j<sz:=by rw [<-hl];exact (List.getElem?_eq_some_iff.1 hj).1
   have hjv:j<vs.size:=by omega
   rw [if_neg (by omega),if_pos (by omega),show i*sz+j - i*sz=j from by omega]
   have hg:=Array.getElem?_eq_getElem hjv
   exact ⟨_,hg,hone j _ hg,hvp j c _ hj hg⟩
  ·rw [List.getElem?_set_ne hik] at hk
   have hjl:j<sz:=by rw [<-hR.el k x hk];exact (List.getElem?_eq_some_iff.1 hj).1
   obtain ⟨q,hq,h1,h2⟩:=hR.rel k x j c hk hj
   refine ⟨q,?_,h1,h2⟩
   rcases Nat.lt_or_gt_of_ne hik with hlt|hgt
   ·have:(i+1)*sz<=k*sz:=Nat.mul_le_mul_right _ hlt
    rw [Nat.add_mul,Nat.one_mul] at this
    rw [if_neg (by omega),if_neg (by omega)];exact hq
   ·have:(k+1)*sz<=i*sz:=Nat.mul_le_mul_right _ hgt
    rw [Nat.add_mul,Nat.one_mul] at this
    rw [if_pos (by omega)];exact hq
theorem MO (ht:Tm C ρ U w t a) {sz:Nat}:∀ (parts:List (Nat×Operand)) (ps:List (Nat×List AV)) (xs xs':List (List AV)) (cells:Array Value),si t sz parts=some ps->ql xs ps=some xs'->sI w (ay C ρ w) sz xs cells->
  ∃ cells',Instr.fill (fun i=>some (i*sz,sz)) cells (parts.map fun p=>(p.1,a.eval p.2))=some cells'/\sI w (ay C ρ w) sz xs' cells'/\xs'.length=xs.length
 |[],ps,xs,xs',cells,hp,hf,hR=>by
  simp only [si,Option.some.injEq] at hp;subst hp
  simp only [ql,Option.some.injEq] at hf;subst hf
  exact ⟨cells,rfl,hR,rfl⟩
 |(i,x)::parts,ps,xs,xs',cells,hp,hf,hR=>by
  simp only [si] at hp
  split at hp
  ·rename_i y l hy hl
   split at hp
   ·rename_i ys hys
    split at hp
    ·rename_i hc
     obtain ⟨hlen,hpure⟩:=hc
     simp only [Option.some.injEq] at hp;subst hp
     simp only [ql] at hf
     split at hf
     ·rename_i hi
      obtain ⟨hvl,hone,_⟩:=yH (aL ht hy) hys
      have hvs:(a.eval x).cells.size=sz:=by rw [<-hvl.1];exact hlen
      have hR':=hR.set hi hlen hvs hone (fun j c v h1 h2=>VP.yG (hvl.2 j c v h1 h2) (DI _ hpure j c h1))
      obtain ⟨cells',hc,HV,hl'⟩:=MO ht parts l (xs.set i ys) xs' _ hl hf hR'
      refine ⟨cells',?_,HV,by rw [hl'];simp⟩
      have hfit:i*sz+(a.eval x).cells.size<=cells.size:=by
       rw [hvs,hR.size]
       have:(i+1)*sz<=xs.length*sz:=Nat.mul_le_mul_right _ hi
       rw [Nat.add_mul,Nat.one_mul] at this
       exact this
      simp only [List.map_cons,Instr.fill]
      rw [if_neg (by simp;omega),Bf _ _ _ hfit]
      exact hc
     ·cases hf
    ·cases hp
   ·cases hp
  ·cases hp
theorem ae6 {U:Nat->Prop} {b:Nat} (h:U b):fV U b=U:=by
 funext k
 refine propext ⟨fun hk=> ?_,.inl⟩
 rcases hk with hk|rfl
 ·exact hk
 ·exact h
theorem MP:∀ (bs:List Nat) {ρ:Nat->Loc} {h:List (Nat×Ob)},HR C ρ U h w->(∀ b ∈ bs,∃ o,get h b=some o/\∀ cs,o≠.box cs)->
  ∃ ρ',HR C ρ' U (oO bs++h) w/\(∀ k,ρ' k=if k ∈ bs then .dead else ρ k)/\(∀ g,ay C ρ w g->ay C ρ' w g)/\Later U ρ ρ'
 |[],ρ,h,hr,_=>⟨ρ,hr,fun k=>by simp,fun _ h=>h,fun _ _=> .inl rfl⟩
 |b::bs,ρ,h,hr,hb=>by
  obtain ⟨ρ1,hr1,e1,ok1,HY⟩:=MP bs hr fun c hc=>hb c (List.mem_cons_of_mem _ hc)
  obtain ⟨o,hg,hnb⟩:=hb b (List.mem_cons_self ..)
  have hub:U b:=(hr.hp b o hg).1
  have hnb':∀ cs,get (oO bs++h) b≠some (.box cs):=by
   have key:∀ (l:List Nat) (cs:List AV),get (oO l++h) b≠some (.box cs):=by
    intro l cs
    induction l with
    |nil=>simp only [oO,List.map_nil,List.nil_append,hg];intro e;cases e;exact hnb cs rfl
    |cons a l ih=>
     simp only [oO,List.map_cons,List.cons_append,get]
     split
     ·intro e;cases e
     ·exact ih
   exact key bs
  have hm:Moved C ρ1 U (oO bs++h) w b .dead w:=⟨rfl,rfl,rfl,Nat.le_refl _,fun _ _ _=>rfl,.inr (.inl ⟨hub,rfl,hnb'⟩)⟩
  have h2:=hm.hr hr1 (ob:= .dead) (fun ⟨cs,h⟩=>absurd h (hnb' cs)) rfl
  rw [ae6 hub] at h2
  refine ⟨up ρ1 b .dead,h2,fun k=> ?_,fun g hk=>hm.ay (ok1 g hk),fun k hk=> ?_⟩
  ·unfold up
   by_cases e:k=b
   ·simp [e]
   ·simp only [e,if_false,e1 k,List.mem_cons,false_or]
  ·unfold up
   by_cases e:k=b
   ·simp only [e,if_true];exact .inr trivial
   ·simp only [e,if_false];exact HY k hk
theorem ae7 (hr:HR C ρ U h w) {ρ':Nat->Loc} {bs:List Nat} (he:∀ k,ρ' k=if k ∈ bs then .dead else ρ k) (ho:∀ g,ay C ρ w g->ay C ρ' w g) {c c':AV} {u:Value} (hc:VR w (ay C ρ w) ρ U c u) (hf:su h c=some c') (hs:∀ b ∈ sj c,b ∈ bs):
  VP w (ay C ρ' w) c' u:=by
 unfold su at hf
 split at hf
 ·rename_i b sz off len
  unfold Dz at hf
  split at hf
  ·rename_i e sz' xs hg
   split at hf
   ·rename_i hcd
    obtain ⟨rfl,hle⟩:=hcd
    cases hf
    obtain ⟨hub,⟨a,n,cp,rfl⟩,hat⟩:=hc.oL
    obtain ⟨_,iM⟩:=hr.hp b _ hg
    cases hl:ρ b with
    |dead=>
     rw [hl] at iM
     rcases iM with ⟨h1,_⟩|⟨_,_,_,_,h1,_⟩<;>cases h1
    |nil=>
     rw [hl] at hat iM
     obtain ⟨rfl,e1⟩:=hat
     rw [e1]
     simp only [List.take_zero]
     exact .fO
    |«at» g o m=>
     rw [hl] at hat iM
     rcases iM with ⟨h1,_⟩|⟨g',o',n',cells,h1,h2,h3,h4,h5,h6⟩
     ·cases h1
     ·cases h1
      rcases hat with ⟨rfl,_,e1|⟨a',e1⟩⟩|⟨cap,h7,h8,e1⟩
      ·rw [e1];simp only [List.take_zero];exact .fO
      ·rw [e1];simp only [List.take_zero]
       exact .sl a' 0 0 (fun _ _=>undef) rfl (Nat.le_refl _) (fun h=>by simp at h) (fun k e h=>by simp at h) (fun k e j c h=>by simp at h) (fun k e j c h=>by simp at h)
      ·rw [e1]
       have hlen:((xs.drop off).take len).length=len:=by simp;omega
       have hget:∀ (k:Nat) (x:List AV),((xs.drop off).take len)[k]? =some x->xs[off+k]? =some x:=by
        intro k x hk
        rw [List.getElem?_take] at hk
        split at hk
        ·rwa [List.getElem?_drop] at hk
        ·cases hk
       have ae8:ay C ρ' w g:=by
        obtain ⟨q1,q2⟩:=hr.bE g ⟨b,o,m,hl⟩
        refine ⟨.inr ?_,q2,?_⟩
        ·rcases q1 with q1|q1
         ·obtain ⟨b',o',n',hb'⟩:=C.wC g q1
          obtain ⟨r1,r2,cs,r3⟩:=hr.fix b' _ hb'
          have:=hr.inj b b' g o m o' n' hl r1
          subst this
          rw [hg] at r3;cases r3
         ·exact q1
        ·rintro ⟨k,o',n',hk⟩
         rw [he k] at hk
         split at hk
         ·cases hk
         ·rename_i hnk
          have:=hr.inj b k g o m o' n' hl hk
          subst this
          exact hnk (hs b (by simp [sj]))
       refine .sl _ _ _ (fun k j=>(cells[o+((off+k)*sz+j)]?).getD undef) hlen.symm h7 (fun _=>⟨rfl,ae8⟩) (fun k x hk=>h5 _ x (hget k x hk)) (fun k x j c hk hj=> ?_) (fun k x j c hk hj=> ?_)
       ·obtain ⟨u,hu,h9,_⟩:=h6 _ x j c (hget k x hk) hj
        simp only [hu,Option.getD_some]
        refine ⟨?_,h9⟩
        have e2:o+off*sz+(k*sz+j)=o+((off+k)*sz+j):=by rw [Nat.add_mul];omega
        simp [World.cell?,h2,e2,hu]
       ·obtain ⟨u,hu,_,h9⟩:=h6 _ x j c (hget k x hk) hj
        simp only [hu,Option.getD_some]
        exact h9.mono ho (fun _ _=>rfl)
   ·cases hf
  ·cases hf
 ·split at hf
  ·rename_i hp
   cases hf
   exact (VP.yG hc hp).mono ho (fun _ _=>rfl)
  ·cases hf
theorem MQ:∀ (ys zs:List AV),l7 h ys=some zs->zs.length=ys.length/\∀ (i:Nat) (z:AV),zs[i]? =some z->∃ y,ys[i]? =some y/\su h y=some z
 |[],zs,hf=>by simp only [l7,Option.some.injEq] at hf;subst hf;exact ⟨rfl,fun i z h=>by simp at h⟩
 |c::cs,zs,hf=>by
  simp only [l7] at hf
  split at hf
  ·rename_i x l h1 h2
   cases hf
   obtain ⟨a1,a2⟩:=MQ cs l h2
   refine ⟨by simp [a1],fun i z hz=> ?_⟩
   cases i with
   |zero=>simp at hz;subst hz;exact ⟨c,rfl,h1⟩
   |succ i=>simpa using a2 i z (by simpa using hz)
  ·cases hf
theorem MS:∀ (ys:List AV) (i:Nat) (y:AV),ys[i]? =some y->∀ b ∈ sj y,b ∈ bQ ys
 |[],i,y,h=>by simp at h
 |c::cs,i,y,h=>by
  intro b hb
  simp only [bQ,List.mem_append]
  cases i with
  |zero=>simp at h;subst h;exact .inl hb
  |succ i=>exact .inr (MS cs i y (by simpa using h) b hb)
theorem MU {sz:Nat}:∀ (parts:List (Nat×Operand)) (ps:List (Nat×List AV)) (bs:List Nat),l8 t h sz parts=some (ps,bs)->∀ b ∈ bs,∃ o,get h b=some o/\∀ cs,o≠.box cs
 |[],ps,bs,hp=>by simp only [l8,Option.some.injEq,Prod.mk.injEq] at hp;obtain ⟨rfl,rfl⟩:=hp;simp
 |(i,x)::rest,ps,bs,hp=>by
  simp only [l8] at hp
  split at hp
  ·rename_i y l bs' hy hl
   split at hp
   ·rename_i ys hys
    split at hp
    ·rename_i zs hzs
     split at hp
     ·cases hp
      intro b hb
      rcases List.mem_append.1 hb with hb|hb
      ·have key:∀ (ys zs:List AV),l7 h ys=some zs->∀ b ∈ bQ ys,∃ o,get h b=some o/\∀ cs,o≠.box cs:=by
        intro ys
        induction ys with
        |nil=>intro zs _ b hb;simp [bQ] at hb
        |cons c cs ih=>
         intro zs hf b hb
         simp only [l7] at hf
         split at hf
         ·rename_i x l h1 h2
          simp only [bQ,List.mem_append] at hb
          rcases hb with hb|hb
          ·cases c<;>simp [sj] at hb
           subst hb
           simp only [su] at h1
           unfold Dz at h1
           split at h1
           ·rename_i hg;exact ⟨_,hg,fun cs e=>by cases e⟩
           ·cases h1
          ·exact ih l h2 b hb
         ·cases hf
       exact key ys zs hzs b hb
      ·exact MU rest l bs' hl b hb
     ·cases hp
    ·cases hp
   ·cases hp
  ·cases hp
theorem MV (hr:HR C ρ U h w) (ht:Tm C ρ U w t a) {ρ':Nat->Loc} {B:List Nat} (he:∀ k,ρ' k=if k ∈ B then .dead else ρ k) (ho:∀ g,ay C ρ w g->ay C ρ' w g) {sz:Nat}:∀ (parts:List (Nat×Operand)) (ps:List (Nat×List AV)) (bs:List Nat) (xs xs':List (List AV)) (cells:Array Value),l8 t h sz parts=some (ps,bs)->(∀ b ∈ bs,b ∈ B)->ql xs ps=some xs'->sI w (ay C ρ' w) sz xs cells->
  ∃ cells',Instr.fill (fun i=>some (i*sz,sz)) cells (parts.map fun p=>(p.1,a.eval p.2))=some cells'/\sI w (ay C ρ' w) sz xs' cells'/\xs'.length=xs.length
 |[],ps,bs,xs,xs',cells,hp,_,hf,hR=>by
  simp only [l8,Option.some.injEq,Prod.mk.injEq] at hp;obtain ⟨rfl,rfl⟩:=hp
  simp only [ql,Option.some.injEq] at hf;subst hf
  exact ⟨cells,rfl,hR,rfl⟩
 |(i,x)::parts,ps,bs,xs,xs',cells,hp,hB,hf,hR=>by
  simp only [l8] at hp
  split at hp
  ·rename_i y l bs' hy hl
   split at hp
   ·rename_i ys hys
    split at hp
    ·rename_i zs hzs
     split at hp
     ·rename_i hlen
      cases hp
      simp only [ql] at hf
      split at hf
      ·rename_i hi
       obtain ⟨hvl,hone,_⟩:=yH (aL ht hy) hys
       obtain ⟨z1,z2⟩:=MQ ys zs hzs
       have hvs:(a.eval x).cells.size=sz:=by rw [<-hvl.1];exact hlen
       have hR':=hR.set hi (z1.trans hlen) hvs hone (fun j c v h1 h2=>by
        obtain ⟨c0,h3,h4⟩:=z2 j c h1
        exact ae7 hr he ho (hvl.2 j c0 v h3 h2) h4 fun b hb=>hB b (List.mem_append.2 (.inl (MS ys j c0 h3 b hb))))
       obtain ⟨cells',hc,HV,hl'⟩:=MV hr ht he ho parts l bs' (xs.set i zs) xs' _ hl (fun b hb=>hB b (List.mem_append.2 (.inr hb))) hf hR'
       refine ⟨cells',?_,HV,by rw [hl'];simp⟩
       have hfit:i*sz+(a.eval x).cells.size<=cells.size:=by
        rw [hvs,hR.size]
        have:(i+1)*sz<=xs.length*sz:=Nat.mul_le_mul_right _ hi
        rw [Nat.add_mul,Nat.one_mul] at this
        exact this
       simp only [List.map_cons,Instr.fill]
       rw [if_neg (by simp;omega),Bf _ _ _ hfit]
       exact hc
      ·cases hf
     ·cases hp
    ·cases hp
   ·cases hp
  ·cases hp
theorem Run.before {ρ':Nat->Loc} {bs:List Nat} {r:Result Next} {x:AV} {o:Nat×Ob} {p:Prop} (hr:HR C ρ' U (oO bs++h) w) (ho:∀ g,ay C ρ w g->ay C ρ' w g) (hl:Later U ρ ρ') (hR:Run C ρ' U (oO bs++h) w nm r ⟨p,x,[o]⟩):
  Run C ρ U h w nm r ⟨p,x,o::oO bs⟩:=by
 obtain ⟨v,w',ρ1,U1,h1,h2,h3,h4,h5⟩:=hR
 exact ⟨v,w',ρ1,U1,h1,h2,h3,fun x u hx=>h4 x u (hx.mono ho (fun _ _=>rfl) (fun _ h=>h) hl),h5⟩
theorem ae9 (hr:HR C ρ U h w) (ht:Tm C ρ U w t a) (hn:¬ U nm) {ty el sz len:Nat} {zs:List Value} {parts:Array (Nat×Operand)} (hu:P.underlying ty=some (.slice el)) (hz:zerosOf P el=some zs) (hs:sizeP P el=some sz)
  (hzl:zs.length=sz) (hpos:0<sz) (hmax:len*sz<=16777216) (hone:zs.all Value.oneCell'=true)
  (ho:o.op= .buildSlice ty len parts) (he:av nm t h (.iJ el sz zs len parts.toList)=some e):Run C ρ U h w nm ((execOp a.eval o).run P w) e:=by
 obtain ⟨i,z,hi,hiz,hzz⟩:=sH hz
 have hzc:z.cells.size=sz:=by rw [<-Array.length_toList,hzz];exact hzl
 simp only [av] at he
 split at he
 ·rename_i ps hps
  split at he
  ·rename_i xs hxs
   simp only [Option.some.injEq] at he;subst he
   have base:sI w (ay C ρ w) sz (List.replicate len (zs.map AV.v)) (madeCells (if len*sz=0 then #[] else z.cells) (len*sz)):=by
    refine ⟨by rw [size_madeCells];simp,fun k x hk=> ?_,?_⟩
    ·rw [List.getElem?_replicate] at hk
     split at hk
     ·cases hk;simp [hzl]
     ·cases hk
    ·refine DU hzl hone (fun k j hk hj=> ?_)
     have:¬ len*sz=0:=by
      have:=Nat.mul_pos (show 0<len by omega) hpos
      omega
     rw [if_neg this,yL hzc hk hj,hzz]
   obtain ⟨cells',hc,hR,hl⟩:=MO ht parts.toList ps _ xs _ hps hxs base
   have hlen:len=xs.length:=by rw [hl];simp
   refine Hw (cells:=cells') hr hn hR.size hlen hR.el hR.rel ?_ True
   have e0:(parts.map fun (x:Nat×Operand)=>(x.1,a.eval x.2)).toList=parts.toList.map fun p=>(p.1,a.eval p.2):=by simp
   have hmx:¬ (len*sz>2 ^ 24):=by
    have:(2:Nat) ^ 24=16777216:=by decide
    omega
   unfold madeCells at hc
   by_cases h0:len*sz=0
   ·simp only [h0,if_true] at hc
    simp only [execOp,ho,Instr.buildSlice,Sem.run_bind,run_underlying hu,Result.andThen_ok,cu hs,h0]
    simp only [show ¬ ((0:Nat)>2 ^ 24) from by omega,if_false,if_true,Sem.run_bind,Sem.run_pure,Result.andThen_ok]
    rw [e0,hc]
    simp [newRow]
   ·simp only [h0,if_false] at hc
    simp only [execOp,ho,Instr.buildSlice,Sem.run_bind,run_underlying hu,Result.andThen_ok,cu hs,hmx,h0,if_false,zeroValue,typeInfo,run_program,hi,hiz,Sem.run_pure]
    rw [e0,hc]
    simp [newRow]
  ·cases he
 ·split at he
  ·rename_i ps bs hps
   split at he
   ·rename_i xs hxs
    simp only [Option.some.injEq] at he;subst he
    obtain ⟨ρ',hr',he',ho',hl'⟩:=MP bs hr (MU _ _ _ hps)
    have base:sI w (ay C ρ' w) sz (List.replicate len (zs.map AV.v)) (madeCells (if len*sz=0 then #[] else z.cells) (len*sz)):=by
     refine ⟨by rw [size_madeCells];simp,fun k x hk=> ?_,?_⟩
     ·rw [List.getElem?_replicate] at hk
      split at hk
      ·cases hk;simp [hzl]
      ·cases hk
     ·refine DU hzl hone (fun k j hk hj=> ?_)
      have:¬ len*sz=0:=by
       have:=Nat.mul_pos (show 0<len by omega) hpos
       omega
      rw [if_neg this,yL hzc hk hj,hzz]
    obtain ⟨cells',hc,hR,hl⟩:=MV hr ht he' ho' parts.toList ps bs _ xs _ hps (fun _ h=>h) hxs base
    have hlen:len=xs.length:=by rw [hl];simp
    refine Run.before hr' ho' hl' ?_
    refine Hw (cells:=cells') hr' hn hR.size hlen hR.el hR.rel ?_ True
    have e0:(parts.map fun (x:Nat×Operand)=>(x.1,a.eval x.2)).toList=parts.toList.map fun p=>(p.1,a.eval p.2):=by simp
    have hmx:¬ (len*sz>2 ^ 24):=by
     have:(2:Nat) ^ 24=16777216:=by decide
     omega
    unfold madeCells at hc
    by_cases h0:len*sz=0
    ·simp only [h0,if_true] at hc
     simp only [execOp,ho,Instr.buildSlice,Sem.run_bind,run_underlying hu,Result.andThen_ok,cu hs,h0]
     simp only [show ¬ ((0:Nat)>2 ^ 24) from by omega,if_false,if_true,Sem.run_bind,Sem.run_pure,Result.andThen_ok]
     rw [e0,hc]
     simp [newRow]
    ·simp only [h0,if_false] at hc
     simp only [execOp,ho,Instr.buildSlice,Sem.run_bind,run_underlying hu,Result.andThen_ok,cu hs,hmx,h0,if_false,zeroValue,typeInfo,run_program,hi,hiz,Sem.run_pure]
     rw [e0,hc]
     simp [newRow]
   ·cases he
  ·cases he
theorem Bg (ht:Tm C ρ U w t a) {d:Nat} {x:Option Operand} {n:Int} (hb:bound t d x=some n):(x=none/\n=d)\/∃ y k,x=some y/\a.eval y= .int k n:=by
 cases x with
 |none=>simp only [bound,Option.some.injEq] at hb;exact .inl ⟨rfl,hb.symm⟩
 |some y=>
  simp only [bound] at hb
  split at hb
  ·rename_i k m hy
   simp only [Option.some.injEq] at hb;subst hb
   exact .inr ⟨y,k,rfl,(aL ht hy).bA⟩
  ·cases hb
theorem DW (ht:Tm C ρ U w t a) (HZ:Bool) {len cap d d':Nat} {lo hi:Option Operand} {l r:Int} (hl:bound t d lo=some l) (hr:bound t d' hi=some r) (hd:d=0) (hd':d'=len)
  (h0:0<=l) (hlr:l<=r) (hrc:r<=cap) (w':World):(Instr.sliceBounds HZ len cap (lo.map a.eval) (hi.map a.eval) none).run P w'= .ok (l.toNat,r.toNat,cap) w':=by
 subst hd'
 rcases Bg ht hr with ⟨rfl,e1⟩|⟨y,k,rfl,hy⟩<;>rcases Bg ht hl with ⟨rfl,e2⟩|⟨z,k',rfl,hz⟩
 ·have a1:r.toNat=d':=by omega
  have a2:l.toNat=0:=by omega
  simp [Instr.sliceBounds,a1,a2]
 ·have a1:r.toNat=d':=by omega
  have c1:0<=l/\l<=(d':Int):=by omega
  simp [Instr.sliceBounds,a1,hz,Instr.sliceBound,asIntOf,c1]
 ·have a2:l.toNat=0:=by omega
  have c1:0<=r/\r<=(cap:Int):=by omega
  simp [Instr.sliceBounds,a2,hy,Instr.sliceBound,asIntOf,c1]
 ·have c1:0<=r/\r<=(cap:Int):=by omega
  have c2:0<=l/\l<=(r.toNat:Int):=by omega
  have c3:0<=l/\l<=max r 0:=by omega
  simp [Instr.sliceBounds,hz,hy,Instr.sliceBound,asIntOf,c1,c3]
theorem afa (hr:HR C ρ U h w) (ht:Tm C ρ U w t a) (hn:¬ U nm) {ty el sz:Nat} {x:Operand} {lo hi mx:Option Operand} (hu:P.underlying ty=some (.slice el)) (hs:sizeP P el=some sz)
  (ho:o.op= .slice ty x lo hi mx) (he:av nm t h (.slice sz x lo hi mx)=some e) (hp:e.pre):Run C ρ U h w nm ((execOp a.eval o).run P w) e:=by
 have run:∀ (ad:Option Addr) (len cap d d':Nat) (l r:Int),mx=none->a.eval x= .slice ad len cap->bound t d lo=some l->bound t d' hi=some r->d=0->d'=len->0<=l->l<=r->r<=cap->
   (execOp a.eval o).run P w= .ok (.value (.slice (if cap=l.toNat then ad else ad.map (·.add (l.toNat*sz))) (r.toNat - l.toNat) (cap - l.toNat))) w:=by
  intro ad len cap d d' l r hmx hx hl hr hd hd' h0 hlr hrc
  subst hmx
  simp only [execOp,ho,hx,Instr.sliceAt,Instr.slice,Sem.run_bind,run_underlying hu,Result.andThen_ok,Option.map_none,DW ht true hl hr hd hd' h0 hlr hrc,cu hs,Sem.run_pure]
 simp only [av] at he
 split at he
 ·rename_i sz' xs l hx hl
  split at he
  ·rename_i r hr'
   split at he
   ·rename_i hss
    subst hss
    simp only [Option.some.injEq] at he;subst he
    obtain ⟨h0,hlr,hrl⟩:=hp
    have hvp:=(aL ht hx).rY
    cases hq:a.eval x with
    |slice ad n cap=>
     rw [hq] at hvp
     cases hvp with
     |fO=>
      simp only [List.length_nil] at hr' hrl
      rw [run none 0 0 0 0 l r rfl hq hl hr' rfl rfl h0 hlr (by simpa using hrl)]
      simp only [List.take_nil,List.drop_nil]
      have e1:r.toNat - l.toNat=0:=by simp at hrl;omega
      rw [e1]
      simp only [Option.map_none,ite_self,Nat.zero_sub]
      exact .same hr (.p .fO) _
     |sl A n cap f hn hcap hok hel hc hv=>
      subst hn
      have ayq:r.toNat<=xs.length:=by omega
      rw [run (some A) xs.length cap 0 xs.length l r rfl hq hl hr' rfl rfl h0 hlr (by omega)]
      have hlen:((xs.take r.toNat).drop l.toNat).length=r.toNat - l.toNat:=by simp;omega
      by_cases hcl:cap=l.toNat
      ·have e0:(xs.take r.toNat).drop l.toNat=[]:=List.eq_nil_of_length_eq_zero (by rw [hlen];omega)
       rw [if_pos hcl,e0]
       refine .same hr (.p (.sl A _ _ (fun _ _=>undef) (by simp;omega) (by omega) (by simp) (by simp) (by simp) (by simp))) _
      ·rw [if_neg hcl]
       simp only [Option.map_some]
       by_cases hpos:0<xs.length
       ·obtain ⟨hsp,hok'⟩:=hok hpos
        rw [MH _ _ hsp]
        have sub:∀ (k:Nat) (x:List AV),((xs.take r.toNat).drop l.toNat)[k]? =some x->xs[l.toNat+k]? =some x:=by
         intro k x hk
         rw [List.getElem?_drop,List.getElem?_take] at hk
         split at hk
         ·exact hk
         ·cases hk
        refine .same hr (.p (.sl ⟨A.block,A.off+l.toNat*sz,none⟩ (r.toNat - l.toNat) (cap - l.toNat) (fun k j=>f (l.toNat+k) j) hlen.symm (by omega) (fun _=>⟨rfl,hok'⟩) (fun k x hk=>hel _ x (sub k x hk)) (fun k x j c hk hj=> ?_) (fun k x j c hk hj=>hv _ x j c (sub k x hk) hj))) _
        have:=hc _ x j c (sub k x hk) hj
        rw [Nat.add_mul] at this
        simp only
        rw [show A.off+l.toNat*sz+(k*sz+j)=A.off+(l.toNat*sz+k*sz+j) from by omega]
        exact this
       ·have e0:(xs.take r.toNat).drop l.toNat=[]:=List.eq_nil_of_length_eq_zero (by rw [hlen];omega)
        rw [e0]
        refine .same hr (.p (.sl _ _ _ (fun _ _=>undef) (by simp;omega) (by omega) (by simp) (by simp) (by simp) (by simp))) _
    |_=>rw [hq] at hvp;cases hvp
   ·cases he
  ·cases he
 ·rename_i b sz' off len l hx hl
  split at he
  ·rename_i ety s2 xs r hb hr'
   split at he
   ·rename_i hss
    subst hss
    simp only [Option.some.injEq] at he;subst he
    obtain ⟨h0,hlr,hrl⟩:=hp
    obtain ⟨hub,_,hown⟩:=(aL ht hx).oL
    have hrow:=(hr.hp b _ hb).2
    cases hloc:ρ b with
    |dead=>rcases hrow with ⟨e',_⟩|⟨_,_,_,_,e',_⟩<;>rw [hloc] at e'<;>cases e'
    |nil=>
     rw [hloc] at hown
     obtain ⟨rfl,hv⟩:=hown
     have hr0:r<=((0:Nat):Int):=by
      rcases hrl with hrl|⟨_,_,hrl⟩
      ·exact hrl
      ·rcases hrow with ⟨_,rfl⟩|⟨_,_,_,_,e',_⟩
       ·simp at hrl;omega
       ·rw [hloc] at e';cases e'
     rw [run none 0 0 0 0 l r rfl hv hl hr' rfl rfl h0 hlr hr0]
     have e1:r.toNat - l.toNat=0:=by omega
     rw [e1]
     simp only [Option.map_none,ite_self,Nat.zero_sub]
     refine .same hr (.own hub ⟨⟨_,_,_,rfl⟩,?_⟩) _
     rw [hloc];exact ⟨rfl,rfl⟩
    |«at» g og n=>
     rw [hloc] at hown
     have hxn:0<sz/\sz=s2/\off+r.toNat<=xs.length->(off+r.toNat)*sz<=n:=by
      rintro ⟨_,rfl,h3⟩
      rcases hrow with ⟨e',_⟩|⟨g',o',n',cells,e',_,_,hxn,_⟩
      ·rw [hloc] at e';cases e'
      ·rw [hloc] at e';cases e'
       exact Nat.le_trans (Nat.mul_le_mul_right _ h3) hxn
     rcases hown with ⟨rfl,hno,hv⟩|⟨cap,hlc,hroom,hv⟩
     ·have hr0:r<=((0:Nat):Int):=by
       rcases hrl with hrl|hrl
       ·exact hrl
       ·have h4:=hxn hrl
        have h5:(off+r.toNat)*sz<=off*sz:=Nat.le_trans h4 hno
        have:=Nat.le_of_mul_le_mul_right h5 hrl.1
        omega
      have e1:r.toNat - l.toNat=0:=by omega
      have e2:l.toNat=0:=by omega
      rcases hv with hv|⟨A,hv⟩
      ·rw [run none 0 0 0 0 l r rfl hv hl hr' rfl rfl h0 hlr hr0]
       rw [e1,e2]
       simp only [Option.map_none,ite_self,Nat.zero_sub]
       refine .same hr (.own hub ⟨⟨_,_,_,rfl⟩,?_⟩) _
       rw [hloc];exact .inl ⟨rfl,hno,.inl rfl⟩
      ·rw [run (some A) 0 0 0 0 l r rfl hv hl hr' rfl rfl h0 hlr hr0]
       rw [e1,e2]
       simp only [if_true,Nat.sub_zero]
       refine .same hr (.own hub ⟨⟨_,_,_,rfl⟩,?_⟩) _
       rw [hloc];exact .inl ⟨rfl,hno,.inr ⟨A,rfl⟩⟩
     ·have hrc:r<=(cap:Int):=by
       rcases hrl with hrl|hrl
       ·omega
       ·have h4:=hxn hrl
        rw [<-hroom] at h4
        have:=Nat.le_of_mul_le_mul_right h4 hrl.1
        omega
      rw [run _ len cap 0 len l r rfl hv hl hr' rfl rfl h0 hlr hrc]
      by_cases hcl:cap=l.toNat
      ·rw [if_pos hcl]
       have e1:r.toNat - l.toNat=0:=by omega
       have e2:cap - l.toNat=0:=by omega
       rw [e1,e2]
       refine .same hr (.own hub ⟨⟨_,_,_,rfl⟩,?_⟩) _
       rw [hloc];exact .inl ⟨rfl,by rw [<-hroom,hcl];exact Nat.le_refl _,.inr ⟨_,rfl⟩⟩
      ·rw [if_neg hcl]
       simp only [Option.map_some,add_plain]
       refine .same hr (.own hub ⟨⟨_,_,_,rfl⟩,?_⟩) _
       rw [hloc]
       refine .inr ⟨cap - l.toNat,by omega,?_,by rw [Nat.add_mul,Nat.add_assoc]⟩
       rw [show off+l.toNat+(cap - l.toNat)=off+cap from by omega]
       exact hroom
   ·cases he
  ·cases he
 ·rename_i l hx hl
  split at he
  ·rename_i r hr'
   simp only [Option.some.injEq] at he;subst he
   obtain ⟨rfl,rfl⟩:=hp
   have hv:=(aL ht hx).bA
   rw [run none 0 0 0 0 0 0 rfl hv hl hr' rfl rfl (Int.le_refl _) (Int.le_refl _) (by simp)]
   exact .same hr (.p (.v _)) _
  ·cases he
 ·rename_i m sz' xs l hx hl
  split at he
  ·rename_i y
   split at he
   ·rename_i k1 r k2 c hy hm
    split at he
    ·rename_i hss
     subst hss
     simp only [Option.some.injEq] at he;subst he
     obtain ⟨rfl,rfl,rfl⟩:=hp
     have hvp:=(aL ht hx).rY
     have hyv:=(aL ht hy).bA
     have hmv:=(aL ht hm).bA
     have hadd:∀ ad:Option Addr,ad.map (fun q=>q.add (0*sz))=ad:=by
      intro ad
      cases ad<;>simp [Addr.add]
     have yM:∀ ad cap,a.eval x= .slice ad xs.length cap->xs.length<=cap->(execOp a.eval o).run P w= .ok (.value (.slice ad xs.length xs.length)) w:=by
      intro ad cap hq hle
      have c1:(0:Int)<=(xs.length:Int)/\(xs.length:Int)<=(cap:Int):=by omega
      have key:(Instr.sliceBounds true xs.length cap (lo.map a.eval) (some (.int k1 (xs.length:Int))) (some (.int k2 (xs.length:Int)))).run P w= .ok (0,xs.length,xs.length) w:=by
       rcases Bg ht hl with ⟨rfl,e2⟩|⟨z,k',rfl,hz⟩
       ·simp [Instr.sliceBounds,Instr.sliceBound,asIntOf,c1]
       ·simp [Instr.sliceBounds,Instr.sliceBound,asIntOf,c1,hz]
      simp only [execOp,ho,hq,Instr.sliceAt,Instr.slice,Sem.run_bind,run_underlying hu,Result.andThen_ok,Option.map_some,hyv,hmv,key,cu hs,Sem.run_pure,Nat.sub_zero,hadd,ite_self]
     cases hq:a.eval x with
     |slice ad n cap=>
      rw [hq] at hvp
      cases hvp with
      |fO=>
       rw [yM none 0 hq (Nat.le_refl _)]
       exact .same hr (.p (.kZ .fO (.inl rfl))) _
      |sl A n cap f hn hcap hok hel hc hv=>
       subst hn
       rw [yM (some A) cap hq hcap]
       exact .same hr (.p (.kZ (.sl A xs.length xs.length f rfl (Nat.le_refl _) hok hel hc hv) (.inr ⟨A,_,rfl⟩))) _
     |_=>rw [hq] at hvp;cases hvp
    ·cases he
   ·cases he
  ·cases he
 ·rename_i m l hx hl
  split at he
  ·rename_i y
   split at he
   ·rename_i k1 r k2 c hy hm
    simp only [Option.some.injEq] at he;subst he
    obtain ⟨rfl,rfl,rfl⟩:=hp
    have hq:=(aL ht hx).bA
    have hyv:=(aL ht hy).bA
    have hmv:=(aL ht hm).bA
    have key:(Instr.sliceBounds true 0 0 (lo.map a.eval) (some (.int k1 0)) (some (.int k2 0))).run P w= .ok (0,0,0) w:=by
     rcases Bg ht hl with ⟨rfl,e2⟩|⟨z,k',rfl,hz⟩
     ·simp [Instr.sliceBounds,Instr.sliceBound,asIntOf]
     ·simp [Instr.sliceBounds,Instr.sliceBound,asIntOf,hz]
    have yM:(execOp a.eval o).run P w= .ok (.value (.slice none 0 0)) w:=by
     simp only [execOp,ho,hq,Instr.sliceAt,Instr.slice,Sem.run_bind,run_underlying hu,Result.andThen_ok,Option.map_some,hyv,hmv,key,cu hs,Sem.run_pure,Nat.sub_zero,if_true]
    rw [yM]
    exact .same hr (.p (.v _)) _
   ·cases he
  ·cases he
 ·rename_i m b sz' off len l hx hl
  split at he
  ·rename_i y
   split at he
   ·rename_i ety s2 xs k1 r k2 c hb hy hm
    split at he
    ·rename_i hss
     subst hss
     simp only [Option.some.injEq] at he;subst he
     obtain ⟨h0,hlr,hrc,hcl⟩:=hp
     obtain ⟨hub,_,hown⟩:=(aL ht hx).oL
     have hrow:=(hr.hp b _ hb).2
     have hyv:=(aL ht hy).bA
     have hmv:=(aL ht hm).bA
     have yM:∀ ad n cap,a.eval x= .slice ad n cap->c<=(cap:Int)->(execOp a.eval o).run P w= .ok (.value (.slice (if c.toNat=l.toNat then ad else ad.map (·.add (l.toNat*sz))) (r.toNat - l.toNat) (c.toNat - l.toNat))) w:=by
      intro ad n cap hq hle
      have c1:0<=c/\c<=(cap:Int):=by omega
      have c2:0<=r/\r<=max c 0:=by omega
      have c3:0<=l/\l<=max r 0:=by omega
      have key:(Instr.sliceBounds true n cap (lo.map a.eval) (some (.int k1 r)) (some (.int k2 c))).run P w= .ok (l.toNat,r.toNat,c.toNat) w:=by
       rcases Bg ht hl with ⟨rfl,e2⟩|⟨z,k',rfl,hz⟩
       ·have a2:l.toNat=0:=by omega
        simp [Instr.sliceBounds,Instr.sliceBound,asIntOf,c1,c2,a2]
       ·simp [Instr.sliceBounds,Instr.sliceBound,asIntOf,c1,c2,c3,hz]
      simp only [execOp,ho,hq,Instr.sliceAt,Instr.slice,Sem.run_bind,run_underlying hu,Result.andThen_ok,Option.map_some,hyv,hmv,key,cu hs,Sem.run_pure]
     obtain ⟨ad,n,cap,hq,hle⟩:∃ ad n cap,a.eval x= .slice ad n cap/\c<=(cap:Int):=by
      cases hloc:ρ b with
      |dead=>rcases hrow with ⟨e',_⟩|⟨_,_,_,_,e',_⟩<;>rw [hloc] at e'<;>cases e'
      |nil=>
       rw [hloc] at hown
       obtain ⟨rfl,hv⟩:=hown
       exact ⟨_,_,_,hv,by omega⟩
      |«at» g og n=>
       rw [hloc] at hown
       rcases hown with ⟨rfl,_,hv|⟨A,hv⟩⟩|⟨cap,hlc,hroom,hv⟩
       ·exact ⟨_,_,_,hv,by omega⟩
       ·exact ⟨_,_,_,hv,by omega⟩
       ·exact ⟨_,_,_,hv,by omega⟩
     rw [yM ad n cap hq hle]
     refine ⟨_,w,ρ,fV U nm,.inl rfl,hr.aes hn,.own (.inr rfl) ⟨⟨_,_,_,rfl⟩,?_⟩,fun _ _ hx=>hx.mono (fun _ h=>h) (fun _ _=>rfl) (fun _ h=> .inl h) (fun _ _=> .inl rfl),fun k hk=>hk⟩
     rw [hr.GR hn];trivial
    ·cases he
   ·cases he
  ·cases he
 ·cases he
theorem afb (hr:HR C ρ U h w) (ht:Tm C ρ U w t a) {ty:TypeId} {x:Operand} {lo hi:Option Operand} (hu:P.underlying ty=some .string)
  (ho:o.op= .slice ty x lo hi none) (he:av nm t h (.nK x lo hi)=some e) (hp:e.pre):Run C ρ U h w nm ((execOp a.eval o).run P w) e:=by
 simp only [av] at he
 split at he
 ·rename_i s l hx hl
  have hv:=(aL ht hx).bA
  split at he
  ·rename_i r hr'
   simp only [Option.some.injEq] at he;subst he
   obtain ⟨h0,hlr,hrl⟩:=hp
   simp only [execOp,ho,hv,Instr.sliceAt,Instr.slice,Sem.run_bind,run_underlying hu,Result.andThen_ok,Option.map_none,Option.isSome_none,Bool.false_eq_true,if_false,DW ht false hl hr' rfl rfl h0 hlr hrl,Sem.run_pure]
   exact .same hr (.p (.v _)) _
  ·cases he
 ·cases he
theorem afc (hr:HR C ρ U h w) (ht:Tm C ρ U w t a) {ty el:TypeId} {n sz:Nat} {x:Operand} (hu:P.underlying ty=some (.array n el)) (hs:sizeP P el=some sz)
  (ho:o.op= .slice ty x none none none) (he:av nm t h (.uo n sz x)=some e):Run C ρ U h w nm ((execOp a.eval o).run P w) e:=by
 simp only [av] at he
 split at he
 ·rename_i b hx
  split at he
  ·rename_i cs hb
   split at he
   ·rename_i hc
    obtain ⟨hcl,hn0,h4⟩:=hc
    simp only [E.ok,Option.some.injEq] at he;subst he
    obtain ⟨hub,ad,hv,had⟩:=(aL ht hx).qi
    obtain ⟨_,g,off,n',ety,cells,hl,hg,hle,hn,_⟩:=hr.hp b _ hb
    have h1:=had g off n' hl
    subst h1
    have hb0:∀ w',(Instr.sliceBounds false n n none none none).run P w'= .ok (0,n,n) w':=fun w'=>by simp [Instr.sliceBounds]
    have hrun:(execOp a.eval o).run P w= .ok (.value (.slice (some ⟨g,off,none⟩) n n)) w:=by
     simp only [execOp,ho,hv,Instr.sliceAt,Instr.sureAddr,Option.map_none,Sem.run_bind,run_underlying hu,Sem.run_pure,Result.andThen_ok,hb0,cu hs,if_neg (Nat.pos_iff_ne_zero.1 hn0)]
     simp [add_plain]
    rw [hrun]
    refine .same hr (.own hub ⟨⟨_,_,_,rfl⟩,?_⟩) _
    rw [hl]
    exact .inr ⟨n,Nat.le_refl _,by rw [hn,hcl,Nat.zero_add],by simp⟩
   ·cases he
  ·cases he
 ·cases he
theorem afd (hr:HR C ρ U h w) (ht:Tm C ρ U w t a) {ty:TypeId} {x i:Operand} (hu:P.underlying ty=some .string)
  (ho:o.op= .index ty x i) (he:av nm t h (.idxs x i)=some e) (hp:e.pre):Run C ρ U h w nm ((execOp a.eval o).run P w) e:=by
 simp only [av] at he
 split at he
 ·rename_i s k n hx hi
  have hv:=(aL ht hx).bA
  have hin:=(aL ht hi).bA
  simp only [Option.some.injEq] at he;subst he
  obtain ⟨h0,hlt⟩:=hp
  have hlt':n.toNat<s.data.size:=by have:s.size=s.data.size:=rfl;omega
  have hg:s[n.toNat]? =some (s.data[n.toNat]?.getD 0):=by
   rw [show s[n.toNat]? =s.data[n.toNat]? from rfl,Array.getElem?_eq_getElem hlt']
   rfl
  simp only [execOp,ho,hv,hin,Instr.index,asIntOf,Sem.run_bind,Sem.run_pure,run_underlying hu,Result.andThen_ok,h0,if_true,hg]
  exact .same hr (.p (.v _)) _
 ·cases he
theorem afe (hr:HR C ρ U h w) (ht:Tm C ρ U w t a) {ty el:TypeId} {n sz:Nat} {ag:Bool} {x i:Operand} (hu:P.underlying ty=some (.array n el)) (hs:sizeP P el=some sz) (ha:aggP P el=some ag)
  (ho:o.op= .index ty x i) (he:av nm t h (.idx ag n sz x i)=some e) (hp:e.pre):Run C ρ U h w nm ((execOp a.eval o).run P w) e:=by
 simp only [av] at he
 split at he
 ·rename_i cs k q hx hi
  obtain ⟨vs,hv,hvl⟩:=(aL ht hx).yA
  have hin:=(aL ht hi).bA
  split at he
  ·rename_i hag
   simp only [Option.some.injEq] at he;subst he
   obtain ⟨h0,hlt,hfit⟩:=hp
   simp only [execOp,ho,hv,hin,Instr.index,asIntOf,Sem.run_bind,Sem.run_pure,run_underlying hu,Result.andThen_ok,h0,hlt,and_self,Sem.run_ite,if_true,cu hs,part,jR ha,hag]
   refine .same hr (.agg ?_ fun j c u hc hj=> ?_) _
   ·have:=hvl.1;simp;omega
   ·rw [Array.getElem?_extract] at hj
    rw [List.getElem?_take] at hc
    split at hj
    ·split at hc
     ·rw [List.getElem?_drop] at hc
      exact hvl.2 _ _ _ hc hj
     ·cases hc
    ·cases hj
  ·rename_i hag
   have hag':ag=false:=by simpa using hag
   split at he
   ·rename_i c hc
    simp only [Option.some.injEq] at he;subst he
    obtain ⟨h0,hlt⟩:=hp
    have hl:q.toNat*sz<vs.size:=by rw [<-hvl.1];exact (List.getElem?_eq_some_iff.1 hc).1
    have hg:vs[q.toNat*sz]? =some vs[q.toNat*sz]:=Array.getElem?_eq_getElem hl
    simp only [execOp,ho,hv,hin,Instr.index,asIntOf,Sem.run_bind,Sem.run_pure,run_underlying hu,Result.andThen_ok,h0,hlt,and_self,Sem.run_ite,if_true,cu hs,part,jR ha,hag',Bool.false_eq_true,if_false,hg]
    exact .same hr (hvl.2 _ _ _ hc hg) _
   ·cases he
 ·cases he
end
end Go.Eng
namespace Go.Eng
open Go
section
variable {P:Program} {C:Ctx} {ρ:Nat->Loc} {U:Nat->Prop} {h:List (Nat×Ob)} {w:World} {nm:Nat} {t:List (Nat×AV)} {a:Act} {o:Oper} {e:E}
theorem MW:∀ (xs:List (List AV)) (l:List UInt8),uq xs=some l->∃ ns:List Int,xs=ns.map (fun n=>[.v (.int .u8 n)])/\l=ns.map fun n=>n.toNat.toUInt8
 |[],l,hl=>by simp only [uq,Option.some.injEq] at hl;subst hl;exact ⟨[],rfl,rfl⟩
 |x::xs,l,hl=>by
  unfold uq at hl
  split at hl
  ·rename_i e;cases e
  ·rename_i n l' e
   simp only [List.cons.injEq] at e
   obtain ⟨rfl,rfl⟩:=e
   split at hl
   ·rename_i r hr
    simp only [Option.some.injEq] at hl;subst hl
    obtain ⟨ns,h1,h2⟩:=MW _ r hr
    exact ⟨n::ns,by simp [h1],by simp [h2]⟩
   ·cases hl
  ·cases hl
theorem foldl_push:∀ (ns:List Int) (s:ByteArray),ns.foldl (fun r n=>r.push (UInt8.ofNat n.toNat)) s=⟨(s.data.toList++ns.map fun n=>n.toNat.toUInt8).toArray⟩
 |[],s=>by simp
 |n::ns,s=>by
  rw [List.foldl_cons,foldl_push ns]
  simp [ByteArray.push]
theorem aff (hr:HR C ρ U h w) (ht:Tm C ρ U w t a) {src dst el:TypeId} {x:Operand} (h1:P.underlying src=some (.slice el)) (h2:P.underlying el=some (.int .u8)) (h3:P.underlying dst=some .string)
  (ho:o.op= .convert src dst x) (he:av nm t h (.lg x)=some e) (hp:e.pre):Run C ρ U h w nm ((execOp a.eval o).run P w) e:=by
 simp only [av] at he
 split at he
 ·rename_i p xs hc
  split at he
  ·rename_i s hs
   simp only [Option.some.injEq] at he;subst he
   cases hx:ev t x with
   |none=>rw [hx] at hc;simp [kP] at hc
   |some y=>
    rw [hx] at hc
    obtain ⟨vals,hR⟩:=Bd hr (Nat.zero_lt_one) (aL ht hx) hc hp
    unfold bytesOf at hs
    split at hs
    ·rename_i l hl
     simp only [Option.some.injEq] at hs;subst hs
     obtain ⟨ns,hxs,hln⟩:=MW _ _ hl
     have wL:vals=ns.map (Value.int .u8):=by
      apply List.ext_getElem?
      intro k
      have hlen:vals.length=ns.length:=by rw [hR.len,hxs];simp
      by_cases hk:k<ns.length
      ·have hxk:xs[k]? =some [.v (.int .u8 ns[k])]:=by rw [hxs];simp [hk]
       obtain ⟨v,hv,hvp⟩:=hR.rel k _ 0 (.v (.int .u8 ns[k])) hxk rfl
       cases hvp
       simp only [Nat.mul_one,Nat.add_zero] at hv
       rw [hv]
       simp [hk]
      ·rw [List.getElem?_eq_none (by omega),List.getElem?_eq_none (by simp;omega)]
     obtain ⟨ad,cap,hxe,hnil,hcell⟩:=hR.form
     have hrun:(convert src dst (a.eval x)).run P w= .ok (.string ⟨l.toArray⟩) w:=by
      rw [hxe,run_convert_bytes_string w src dst el ad xs.length cap h1 h2 h3]
      cases ad with
      |none=>
       have:=hnil rfl
       rw [this] at hxs
       have hns:ns=[]:=by cases ns with|nil=>rfl|cons _ _=>simp at hxs
       subst hns
       rw [hln]
       simp [Conv.bytesToString]
       rfl
      |some A=>
       have hl':=run_loadCells_list (P:=P) w A vals (fun j v hj=>hcell A rfl j v hj)
       rw [hR.len,Nat.mul_one] at hl'
       rw [wL] at hl'
       rw [run_bytesToString w A xs.length cap ns hl',foldl_push,hln]
       simp
     simp only [execOp,ho,Sem.run_bind,hrun,Result.andThen_ok,Sem.run_pure]
     exact .same hr (.p (.v _)) _
    ·cases hs
  ·cases he
 ·cases he
theorem MX (hr:HR C ρ U h w) (ht:Tm C ρ U w t a) {c:Call} {mx:Bool} (hc:c.callee= .builtin (if mx then .max else .min)) (ho:o.op= .call c) (he:av nm t h (.l5 mx c.args.toList)=some e):
  Run C ρ U h w nm ((execOp a.eval o).run P w) e:=by
 simp only [av] at he
 split at he
 ·rename_i k x k' y hxs
  split at he
  ·rename_i hk
   subst hk
   simp only [E.ok,Option.some.injEq] at he;subst he
   have hv:=yF ht hxs
   have hl:(c.args.toList.map a.eval).length=2:=by have:=hv.1;simpa using this.symm
   have e2:∃ u v,c.args.toList.map a.eval=[u,v]:=by
    match c.args.toList.map a.eval,hl with
    |[u,v],_=>exact ⟨u,v,rfl⟩
   obtain ⟨u,v,e3⟩:=e2
   have eu:u= .int k x:=(hv.2 0 _ u rfl (by rw [e3];rfl)).bA
   have ev':v= .int k y:=(hv.2 1 _ v rfl (by rw [e3];rfl)).bA
   subst eu;subst ev'
   have e4:(c.args.map a.eval).toList=[.int k x,.int k y]:=by rw [<-e3];simp
   cases mx
   ·simp only [Bool.false_eq_true,if_false] at hc ⊢
    have hrun:(execOp a.eval o).run P w= .ok (.value (.int k (if y<x then y else x))) w:=by
     simp only [execOp,ho,resolve,hc,invoke,builtin,Sem.run_bind,Sem.run_pure,Result.andThen_ok,Builtin.min_,e4]
     simp [Builtin.min2]
    rw [hrun,show (min x y)=(if y<x then y else x) from by rw [Int.min_def];split<;>split<;>omega]
    exact .same hr (.p (.v _)) True
   ·simp only [if_true] at hc ⊢
    have hrun:(execOp a.eval o).run P w= .ok (.value (.int k (if y>x then y else x))) w:=by
     simp only [execOp,ho,resolve,hc,invoke,builtin,Sem.run_bind,Sem.run_pure,Result.andThen_ok,Builtin.max_,e4]
     simp [Builtin.max2]
    rw [hrun,show (max x y)=(if y>x then y else x) from by rw [Int.max_def];split<;>split<;>omega]
    exact .same hr (.p (.v _)) True
  ·cases he
 ·cases he
theorem afg (hr:HR C ρ U h w) (ht:Tm C ρ U w t a) {ty el:TypeId} {x:Operand} {c:Call} (h1:P.underlying ty=some (.slice el))
  (hc:c.callee= .builtin .cap) (h2:c.argTypes[0]? =some ty) (h3:c.args[0]? =some x) (ho:o.op= .call c) (he:av nm t h (.cap x)=some e):
  Run C ρ U h w nm ((execOp a.eval o).run P w) e:=by
 simp only [av] at he
 split at he
 ·rename_i n q hx
  have hv:=(aL ht hx).bA
  simp only [E.ok,Option.some.injEq] at he;subst he
  have h4:(c.args.map a.eval)[0]? =some (a.eval x):=by simp [h3]
  have hrun:(Builtin.cap_ c.argTypes o.type (c.args.map a.eval)).run P w= .ok (.int .i64 q) w:=by
   simp [Builtin.cap_,h2,h3,hv,run_underlying h1,goInt]
  simp only [execOp,ho,resolve,hc,invoke,builtin,Sem.run_bind,Sem.run_pure,Result.andThen_ok,hrun]
  exact .same hr (.p (.v _)) True
 ·cases he
theorem wM {z:Array Value} {sz n k j:Nat} (hz:z.size=sz) (hk:k<n) (hj:j<sz):(Builtin.zeroCells z n)[k*sz+j]? =z.toList[j]? :=by
 have:=yL hz hk hj
 unfold Builtin.zeroCells
 unfold madeCells at this
 rw [hz]
 rw [hz] at this
 exact this
theorem afh (hr:HR C ρ U h w) (ht:Tm C ρ U w t a) (hn:¬ U nm) {ty ti el sz aP:Nat} {q:IntKind} {zs:List Value} {s x:Operand} {c:Call} (hE:El P ty el sz aP zs) (hone:zs.all Value.oneCell'=true) (hti:P.underlying ti=some (.int q))
  (hc:c.callee= .builtin .append) (h2:c.argTypes= #[ty,ti]) (h3:c.args= #[s,x]) (ho:o.op= .call c) (he:av nm t h (.lm el sz aP zs s x)=some e) (hp:e.pre):
  Run C ρ U h w nm ((execOp a.eval o).run P w) e:=by
 obtain ⟨i,z,hi,hiz,his,hib,hzc,hzl⟩:=hE.info
 have hsz:=hE.pos
 simp only [av] at he
 split at he
 ·rename_i k n hs hx
  have e1:=(aL ht hs).bA
  have e2:=(aL ht hx).bA
  simp only [Option.some.injEq] at he;subst he
  obtain ⟨h0,hb,h63⟩:=hp
  have hnn:(n.toNat:Int)=n:=by omega
  have hbn:n.toNat*aP<=140737488355328:=by
   have:((n.toNat*aP:Nat):Int)<=140737488355328:=by rw [Int.natCast_mul,hnn];exact hb
   omega
  have hcapge:=grownCap_ge w n.toNat 0 el
  have hw:IntKind.i64.wrap n=n:=by rw [IntKind.wrap_i64];omega
  have c1:¬ n<0:=by omega
  have c2:¬ (281474976710656<n*(aP:Int)):=by omega
  have c3:¬ n.toNat=0:=by omega
  have c3':¬ n<=0:=by omega
  have c4:¬ (9223372036854775807<max n 0):=by omega
  have c5:¬ (281474976710656<Builtin.nextslicecap n.toNat 0*aP):=by rw [nextslicecap_zero (by omega)];omega
  have c6:¬ (n.toNat*sz=0):=by
   have:=Nat.mul_pos (show 0<n.toNat by omega) hsz
   omega
  have hrun:(Builtin.append_ #[ty,ti] o.type #[a.eval s,a.eval x]).run P w=
    .ok (.slice (some ⟨w.heap.size,0,none⟩) n.toNat (grownCap w n.toNat 0 el)) (w.drew.alloc (.cells (Builtin.zeroCells z.cells n.toNat++Builtin.zeroCells z.cells (grownCap w n.toNat 0 el - n.toNat)) el)):=by
   rw [e1,e2]
   simp [Builtin.append_,run_underlying hE.und,run_underlying hti,sizeOf,typeInfo,zeroValue,hi,hiz,asInt,asIntOf,hw,c1,c2,c3',c4,c5,c6,his,hib,Question.forced,run_firstCells_none,newRow,grownCap]
  have hm:Moved C ρ U h w nm (.at w.heap.size 0 (grownCap w n.toNat 0 el*sz)) (w.drew.alloc (.cells (Builtin.zeroCells z.cells n.toNat++Builtin.zeroCells z.cells (grownCap w n.toNat 0 el - n.toNat)) el)):=
   ⟨rfl,rfl,rfl,by simp,fun g hg _=>Go.RowKit.Below.heap_alloc w.drew _ g hg,.inr (.inr ⟨hn,.inr ⟨w.heap.size,0,_,rfl,Nat.le_refl _,by simp⟩⟩)⟩
  have hz:=DU (w:=w.drew.alloc (.cells (Builtin.zeroCells z.cells n.toNat++Builtin.zeroCells z.cells (grownCap w n.toNat 0 el - n.toNat)) el)) (ok:=ay C (up ρ nm (.at w.heap.size 0 (grownCap w n.toNat 0 el*sz))) (w.drew.alloc (.cells (Builtin.zeroCells z.cells n.toNat++Builtin.zeroCells z.cells (grownCap w n.toNat 0 el - n.toNat)) el)))
   (n:=n.toNat) (cells:=Builtin.zeroCells z.cells n.toNat) hE.zl hone (fun k j hk hj=>by rw [wM hzc hk hj,hzl])
  have hnew:=yJ (w':=w.drew.alloc (.cells (Builtin.zeroCells z.cells n.toNat++Builtin.zeroCells z.cells (grownCap w n.toNat 0 el - n.toNat)) el)) (ok:=ay C (up ρ nm (.at w.heap.size 0 (grownCap w n.toNat 0 el*sz))) (w.drew.alloc (.cells (Builtin.zeroCells z.cells n.toNat++Builtin.zeroCells z.cells (grownCap w n.toNat 0 el - n.toNat)) el)))
   (ρ':=up ρ nm (.at w.heap.size 0 (grownCap w n.toNat 0 el*sz))) (U':=fV U nm) (el:=el) (sz:=sz) (g:=w.heap.size) (m:=n.toNat) (cap:=grownCap w n.toNat 0 el) (xs:=List.replicate n.toNat (zs.map AV.v)) (vals:=(Builtin.zeroCells z.cells n.toNat).toList) (rest:=(Builtin.zeroCells z.cells (grownCap w n.toNat 0 el - n.toNat)).toList)
   (by rw [show ((Builtin.zeroCells z.cells n.toNat).toList++(Builtin.zeroCells z.cells (grownCap w n.toNat 0 el - n.toNat)).toList).toArray=Builtin.zeroCells z.cells n.toNat++Builtin.zeroCells z.cells (grownCap w n.toNat 0 el - n.toNat) from by apply Array.ext';simp];exact heap_alloc_new w.drew _)
   (by rw [uF,hzc];simp) (fun k x hk=>by
    rw [List.getElem?_replicate] at hk
    split at hk
    ·cases hk;simp [hE.zl]
    ·cases hk)
   (fun v hv=>by
    obtain ⟨j,hj,rfl⟩:=List.mem_iff_getElem.1 hv
    have hj':j<n.toNat*sz:=by rw [<-hzc,<-uF];exact hj
    have d1:j / sz<n.toNat:=Nat.div_lt_of_lt_mul (by rw [Nat.mul_comm];exact hj')
    have d2:j % sz<sz:=Nat.mod_lt _ hsz
    have hg:=wM hzc d1 d2
    rw [show j / sz*sz+j % sz=j from by rw [Nat.mul_comm];exact Nat.div_add_mod j sz,hzl] at hg
    rw [<-Array.getElem?_toList,List.getElem?_eq_getElem hj] at hg
    exact List.all_eq_true.1 hone _ (List.mem_iff_getElem?.2 ⟨_,hg.symm⟩))
   (fun k x j c hk hj=>(hz k x j c hk hj).imp fun v hv=>⟨by rw [Array.getElem?_toList];exact hv.1,hv.2.2⟩)
   (by rw [List.length_append,uF,uF,hzc,<-Nat.add_mul];congr 1;omega) (by simp) hcapge
  refine Run.moved (v:= .slice (some ⟨w.heap.size,0,none⟩) n.toNat (grownCap w n.toNat 0 el)) hr hm (fun ⟨cs,hcs⟩=>absurd (hr.hp _ _ hcs).1 hn) hnew.1 (.inl ?_) (.own (.inr rfl) ?_) (.inr rfl) _
  ·simp only [execOp,ho,resolve,hc,h2,h3,invoke,builtin,Sem.run_bind,Sem.run_pure,Result.andThen_ok,List.map_toArray,List.map_cons,List.map_nil,hrun]
  ·simp only [up,if_true]
   exact hnew.2
 ·cases he
theorem afi (hr:HR C ρ U h w) (ht:Tm C ρ U w t a) {ty el sz:Nat} {zs:List Value} {x:Operand} {c:Call} (hu:P.underlying ty=some (.slice el)) (hz:zerosOf P el=some zs) (hs:sizeP P el=some sz)
  (hzl:zs.length=sz) (hone:zs.all Value.oneCell'=true)
  (hc:c.callee= .builtin .clear) (h2:c.argTypes[0]? =some ty) (h3:c.args[0]? =some x) (ho:o.op= .call c) (he:av nm t h (.lq sz zs x)=some e) (hp:e.pre):
  Run C ρ U h w nm ((execOp a.eval o).run P w) e:=by
 obtain ⟨i,z,hi,hiz,hzz⟩:=sH hz
 have hzc:z.cells.size=sz:=by rw [<-Array.length_toList,hzz];exact hzl
 have dD:∀ v w',(Builtin.clear_ c.argTypes o.type (c.args.map a.eval)).run P w= .ok v w'->(execOp a.eval o).run P w= .ok (.value v) w':=by
  intro v w' hv
  simp only [execOp,ho,resolve,hc,invoke,builtin,Sem.run_bind,Sem.run_pure,Result.andThen_ok,hv]
 have h4:(c.args.map a.eval)[0]? =some (a.eval x):=by simp [h3]
 simp only [av] at he
 split at he
 ·rename_i b sz' off len hx
  split at he
  ·rename_i ety s2 xs hb
   split at he
   ·rename_i hss
    obtain ⟨e1,e2⟩:=hss
    subst e1;subst e2
    simp only [Option.some.injEq] at he;subst he
    obtain ⟨hub,_,hown⟩:=(aL ht hx).oL
    have hrow:=(hr.hp b _ hb).2
    have nothing:len=0->∀ ad cap,a.eval x= .slice ad 0 cap->∀ p,Run C ρ U h w nm ((execOp a.eval o).run P w) ⟨p,.v undef,[(b,.row ety sz (xs.take off++(List.replicate len (zs.map AV.v)++xs.drop (off+len))))]⟩:=by
     intro h0 ad cap hv p
     subst h0
     have hm:Moved C ρ U h w b (ρ b) w:=⟨rfl,rfl,rfl,Nat.le_refl _,fun _ _ _=>rfl,.inl ⟨hub,rfl⟩⟩
     simp only [List.replicate_zero,List.nil_append,Nat.add_zero,List.take_append_drop]
     refine ⟨.tuple #[],w,_,_,.inl (dD _ _ ?_),hm.hr hr (ob:= .row ety sz xs) (fun ⟨cs,hcs⟩=>by rw [hb] at hcs;cases hcs) ?_,.p (.v _),fun _ _ h=>hm.vr h,fun k hk=>hk.elim .inl fun e=> .inl (e▸hub)⟩
     ·cases ad<;>simp [Builtin.clear_,h2,h3,hv,run_underlying hu]
     ·refine dV.keep hm (fun g o n hl=>⟨(hr.bE g ⟨b,o,n,hl⟩).2,rfl⟩) hrow
    cases hl:ρ b with
    |dead=>rcases hrow with ⟨e',_⟩|⟨_,_,_,_,e',_⟩<;>rw [hl] at e'<;>cases e'
    |nil=>rw [hl] at hown;exact nothing hown.1 _ _ (by rw [hown.2]) _
    |«at» g og n=>
     rw [hl] at hown
     rcases hown with ⟨h0,_,hv|⟨A,hv⟩⟩|⟨cap,hlc,hroom,hv⟩
     ·exact nothing h0 _ _ hv _
     ·exact nothing h0 _ _ hv _
     ·by_cases h0:len=0
      ·subst h0;exact nothing rfl _ _ hv _
      ·have hfit:off+len<=xs.length:=hp
       obtain ⟨g',o',n',cells,hl',hg,hcs,hxn,hrl,hcell⟩:=yI hr hb (by omega)
       rw [hl] at hl';cases hl'
       have hmul:(off+len)*sz<=xs.length*sz:=Nat.mul_le_mul_right _ hfit
       rw [Nat.add_mul] at hmul
       have yN:=uF z.cells len
       rw [hzc] at yN
       have H6:∀ v ∈ (Builtin.zeroCells z.cells len).toList,v.oneCell'=true:=by
        intro v hv
        obtain ⟨j,hj,rfl⟩:=List.mem_iff_getElem.1 hv
        have hj':j<len*sz:=by rw [<-yN];exact hj
        have hsz:0<sz:=by
         rcases Nat.eq_zero_or_pos sz with h|h
         ·rw [h,Nat.mul_zero] at hj';omega
         ·exact h
        have d1:j / sz<len:=Nat.div_lt_of_lt_mul (by rw [Nat.mul_comm];exact hj')
        have d2:j % sz<sz:=Nat.mod_lt _ hsz
        have hgz:=wM hzc d1 d2
        rw [show j / sz*sz+j % sz=j from by rw [Nat.mul_comm];exact Nat.div_add_mod j sz,hzz] at hgz
        rw [<-Array.getElem?_toList,List.getElem?_eq_getElem hj] at hgz
        exact List.all_eq_true.1 hone _ (List.mem_iff_getElem?.2 ⟨_,hgz.symm⟩)
       have hst:=run_storeCells_at P g (og+off*sz) ety (Builtin.zeroCells z.cells len).toList 0 cells w hg (by rw [yN];omega) H6
       simp only [Nat.add_zero,List.append_assoc] at hst
       have hm:Moved C ρ U h w b (.at g og n) (w.setRow g (pasted cells (og+off*sz) (Builtin.zeroCells z.cells len))):=by
        refine ⟨rfl,rfl,rfl,by simp,fun k hk hkb=> ?_,.inl ⟨hub,hl.symm⟩⟩
        by_cases hkg:k=g
        ·subst hkg;exact absurd hl (hkb og n)
        ·exact oP w g k _ hkg
       have hzs:(Builtin.zeroCells z.cells len).size=len*sz:=by rw [size_zeroCells,hzc]
       have hps:=jb cells (og+off*sz) (Builtin.zeroCells z.cells len) (by omega)
       have hgt:∀ k:Nat,(xs.take off++(List.replicate len (zs.map AV.v)++xs.drop (off+len)))[k]? =if k<off then xs[k]? else if k<off+len then some (zs.map AV.v) else xs[k]? :=by
        intro k
        have:=wF xs (List.replicate len (zs.map AV.v)) off k (by simpa using hfit)
        simp only [List.length_replicate] at this
        rw [this]
        split
        ·rfl
        ·split
         ·rw [List.getElem?_replicate,if_pos (by omega)]
         ·rfl
       refine ⟨.tuple #[],_,_,_,.inl (dD _ _ ?_),hm.hr hr (ob:= .row ety sz (xs.take off++(List.replicate len (zs.map AV.v)++xs.drop (off+len)))) (fun ⟨cs,hcs⟩=>by rw [hb] at hcs;cases hcs) ?_,.p (.v _),fun _ _ h=>hm.vr h,fun k hk=>hk.elim .inl fun e=> .inl (e▸hub)⟩
       ·have ayr:len≠0:=h0
        simp [Builtin.clear_,h2,h3,hv,run_underlying hu,zeroValue,typeInfo,hi,hiz,hst,pasted]
       ·refine .inr ⟨g,og,n,_,rfl,setRow_heap w g cells _ ety (0,0) hg,by rw [hps];exact hcs,by
         rw [show (xs.take off++(List.replicate len (zs.map AV.v)++xs.drop (off+len))).length=xs.length from by simp;omega];exact hxn,fun k x' hk=> ?_,fun k x' j c hk hj=> ?_⟩
        ·rw [hgt] at hk
         split at hk
         ·exact hrl _ _ hk
         ·split at hk
          ·cases hk;simp [hzl]
          ·exact hrl _ _ hk
        ·rw [iC _ _ _ (by omega),hzs]
         rw [hgt] at hk
         split at hk
         ·rename_i hko
          obtain ⟨u,hu1,hu2,hu3⟩:=hcell k x' j c hk hj
          have hjs:j<sz:=by rw [<-hrl k x' hk];exact (List.getElem?_eq_some_iff.1 hj).1
          have:(k+1)*sz<=off*sz:=Nat.mul_le_mul_right _ hko
          rw [Nat.add_mul,Nat.one_mul] at this
          rw [if_pos (by omega)]
          exact ⟨u,hu1,hu2,hm.vp hu3⟩
         ·split at hk
          ·rename_i hko hkl
           cases hk
           rw [List.getElem?_map,Option.map_eq_some_iff] at hj
           obtain ⟨q,hq,rfl⟩:=hj
           have hjs:j<sz:=by rw [<-hzl];exact (List.getElem?_eq_some_iff.1 hq).1
           have h5:k*sz=off*sz+(k - off)*sz:=by rw [<-Nat.add_mul];congr 1;omega
           have h6:(k - off+1)*sz<=len*sz:=Nat.mul_le_mul_right _ (by omega)
           rw [Nat.add_mul,Nat.one_mul] at h6
           rw [if_neg (by omega),if_pos (by omega)]
           refine ⟨q,?_,List.all_eq_true.1 hone q (List.mem_iff_getElem?.2 ⟨j,hq⟩),.v q⟩
           rw [show og+(k*sz+j) - (og+off*sz)=(k - off)*sz+j from by omega]
           rw [wM hzc (show k - off<len by omega) hjs,hzz]
           exact hq
          ·rename_i hko hkl
           obtain ⟨u,hu1,hu2,hu3⟩:=hcell k x' j c hk hj
           have h5:(off+len)*sz<=k*sz:=Nat.mul_le_mul_right _ (by omega)
           rw [Nat.add_mul] at h5
           rw [if_neg (by omega),if_neg (by omega)]
           exact ⟨u,hu1,hu2,hm.vp hu3⟩
   ·cases he
  ·cases he
 ·cases he
theorem afj (hr:HR C ρ U h w) (ht:Tm C ρ U w t a) {ty el sz:Nat} {d x:Operand} {c:Call} (hu:P.underlying ty=some (.slice el)) (hs:sizeP P el=some sz) (hsz:0<sz)
  (hc:c.callee= .builtin .copy) (h2:c.argTypes[0]? =some ty) (h3:c.args= #[d,x]) (ho:o.op= .call c) (he:av nm t h (.copy sz d x)=some e) (hp:e.pre):
  Run C ρ U h w nm ((execOp a.eval o).run P w) e:=by
 have dD:∀ v w',(Builtin.copy_ c.argTypes o.type (c.args.map a.eval)).run P w= .ok v w'->(execOp a.eval o).run P w= .ok (.value v) w':=by
  intro v w' hv
  simp only [execOp,ho,resolve,hc,invoke,builtin,Sem.run_bind,Sem.run_pure,Result.andThen_ok,hv]
 simp only [av] at he
 split at he
 ·rename_i b sz' off len p ys hd hcn
  split at he
  ·rename_i ety s2 xs hb
   split at he
   ·rename_i hss
    obtain ⟨e1,e2⟩:=hss
    subst e1;subst e2
    simp only [Option.some.injEq] at he;subst he
    obtain ⟨hp1,hfit⟩:=hp
    obtain ⟨vals,hR⟩:∃ vals,Reads w (ay C ρ w) sz ys (a.eval x) vals:=by
     cases hx:ev t x with
     |none=>rw [hx] at hcn;simp [kP] at hcn
     |some y=>rw [hx] at hcn;exact Bd hr hsz (aL ht hx) hcn hp1
    obtain ⟨hub,_,hown⟩:=(aL ht hd).oL
    have hrow:=(hr.hp b _ hb).2
    obtain ⟨ad,cap,hx,hnil,hcell⟩:=hR.form
    obtain ⟨m,hm⟩:∃ m,m=min len ys.length:=⟨_,rfl⟩
    obtain ⟨zv,hzv⟩:∃ zv,zv=vals.take (m*sz):=⟨_,rfl⟩
    have hmy:m*sz<=vals.length:=by rw [hR.len];exact Nat.mul_le_mul_right _ (by omega)
    have hzl:zv.length=m*sz:=by rw [hzv,List.length_take];omega
    have hm1:Nat.min ys.length len=m:=by rw [hm];exact Nat.min_comm _ _
    have hm2:min ys.length len=m:=hm1
    have hzg:∀ (j:Nat) (v:Value),zv[j]? =some v->vals[j]? =some v:=by
     intro j v hj
     rw [hzv,List.getElem?_take] at hj
     split at hj
     ·exact hj
     ·cases hj
    have hfc:(Builtin.firstCells sz m (.slice ad ys.length cap)).run P w= .ok zv.toArray w:=by
     cases ad with
     |none=>
      have h0:=hnil rfl
      have hm0:m=0:=by rw [hm,h0];simp
      have hz0:zv=[]:=List.eq_nil_of_length_eq_zero (by rw [hzl,hm0,Nat.zero_mul])
      rw [hz0]
      simp [Builtin.firstCells]
     |some B=>exact run_firstCells_some w sz m B ys.length cap zv hzl (fun j v hj=>hcell B rfl j v (hzg j v hj))
    have hlen:(ys.take len).length=m:=by rw [List.length_take,hm]
    have hargs:c.args.map a.eval= #[a.eval d,.slice ad ys.length cap]:=by rw [h3,<-hx];simp
    have nothing:m=0->∀ ad0 cap0,a.eval d= .slice ad0 len cap0->∀ p,Run C ρ U h w nm ((execOp a.eval o).run P w) ⟨p,.v (.int .i64 (Int.ofNat (min len ys.length))),[(b,.row ety sz (xs.take off++(ys.take len++xs.drop (off+min len ys.length))))]⟩:=by
     intro h0 ad0 cap0 hv p
     have hz0:zv=[]:=List.eq_nil_of_length_eq_zero (by rw [hzl,h0,Nat.zero_mul])
     have hy0:ys.take len=[]:=List.eq_nil_of_length_eq_zero (by rw [hlen,h0])
     have hmv:Moved C ρ U h w b (ρ b) w:=⟨rfl,rfl,rfl,Nat.le_refl _,fun _ _ _=>rfl,.inl ⟨hub,rfl⟩⟩
     rw [hy0,<-hm,h0]
     simp only [List.nil_append,Nat.add_zero,List.take_append_drop]
     refine ⟨.int .i64 (Int.ofNat 0),w,_,_,.inl (dD _ _ ?_),hmv.hr hr (ob:= .row ety sz xs) (fun ⟨cs,hcs⟩=>by rw [hb] at hcs;cases hcs) ?_,.p (.v _),fun _ _ h=>hmv.vr h,fun k hk=>hk.elim .inl fun e=> .inl (e▸hub)⟩
     ·rw [hargs,hv]
      rw [hz0] at hfc
      cases ad0<;>simp [Builtin.copy_,h2,run_underlying hu,Builtin.lenOf,cu hs,hm1,hm2,h0▸hfc,storeCells,goInt,h0]
     ·refine dV.keep hmv (fun g o n hl=>⟨(hr.bE g ⟨b,o,n,hl⟩).2,rfl⟩) hrow
    cases hl:ρ b with
    |dead=>rcases hrow with ⟨e',_⟩|⟨_,_,_,_,e',_⟩<;>rw [hl] at e'<;>cases e'
    |nil=>rw [hl] at hown;exact nothing (by rw [hm,hown.1];simp) _ _ (by rw [hown.2,hown.1]) _
    |«at» g og n=>
     rw [hl] at hown
     rcases hown with ⟨h0,_,hv|⟨A,hv⟩⟩|⟨cap0,hlc,hroom,hv⟩
     ·exact nothing (by rw [hm,h0];simp) _ _ (by rw [hv,h0]) _
     ·exact nothing (by rw [hm,h0];simp) _ _ (by rw [hv,h0]) _
     ·by_cases h0:m=0
      ·exact nothing h0 _ _ hv _
      ·obtain ⟨g',o',n',cells,hl',hg,hcs,hxn,hrl,wH⟩:=yI hr hb (by omega)
       rw [hl] at hl';cases hl'
       have hmul:(off+m)*sz<=xs.length*sz:=Nat.mul_le_mul_right _ (by omega)
       rw [Nat.add_mul] at hmul
       have H6:∀ v ∈ zv,v.oneCell'=true:=fun v hv=>hR.one v (List.mem_of_mem_take (by rw [<-hzv];exact hv))
       have hst:=run_storeCells_at P g (og+off*sz) ety zv 0 cells w hg (by rw [hzl];omega) H6
       simp only [Nat.add_zero,List.append_assoc] at hst
       have hmv:Moved C ρ U h w b (.at g og n) (w.setRow g (pasted cells (og+off*sz) zv.toArray)):=by
        refine ⟨rfl,rfl,rfl,by simp,fun k hk hkb=> ?_,.inl ⟨hub,hl.symm⟩⟩
        by_cases hkg:k=g
        ·subst hkg;exact absurd hl (hkb og n)
        ·exact oP w g k _ hkg
       have hzs:zv.toArray.size=m*sz:=by simpa using hzl
       have hps:=jb cells (og+off*sz) zv.toArray (by omega)
       have hgt:∀ k:Nat,(xs.take off++(ys.take len++xs.drop (off+min len ys.length)))[k]? =if k<off then xs[k]? else if k<off+m then ys[k - off]? else xs[k]? :=by
        intro k
        have:=wF xs (ys.take len) off k (by rw [hlen];omega)
        rw [hlen] at this
        rw [<-hm,this]
        split
        ·rfl
        ·split
         ·rw [List.getElem?_take,if_pos (by omega)]
         ·rfl
       refine ⟨.int .i64 (Int.ofNat m),_,_,_,.inl (dD _ _ ?_),hmv.hr hr (ob:= .row ety sz (xs.take off++(ys.take len++xs.drop (off+min len ys.length)))) (fun ⟨cs,hcs⟩=>by rw [hb] at hcs;cases hcs) ?_,by rw [<-hm];exact .p (.v _),fun _ _ h=>hmv.vr h,fun k hk=>hk.elim .inl fun e=> .inl (e▸hub)⟩
       ·rw [hargs,hv]
        simp [Builtin.copy_,h2,run_underlying hu,Builtin.lenOf,cu hs,hm1,hm2,hfc,hst,pasted,goInt]
       ·refine .inr ⟨g,og,n,_,rfl,setRow_heap w g cells _ ety (0,0) hg,by rw [hps];exact hcs,by
         rw [show (xs.take off++(ys.take len++xs.drop (off+min len ys.length))).length=xs.length from by simp;omega];exact hxn,fun k x' hk=> ?_,fun k x' j c hk hj=> ?_⟩
        ·rw [hgt] at hk
         split at hk
         ·exact hrl _ _ hk
         ·split at hk
          ·exact hR.el _ _ hk
          ·exact hrl _ _ hk
        ·rw [iC _ _ _ (by omega),hzs]
         rw [hgt] at hk
         split at hk
         ·rename_i hko
          obtain ⟨u,hu1,hu2,hu3⟩:=wH k x' j c hk hj
          have hjs:j<sz:=by rw [<-hrl k x' hk];exact (List.getElem?_eq_some_iff.1 hj).1
          have:(k+1)*sz<=off*sz:=Nat.mul_le_mul_right _ hko
          rw [Nat.add_mul,Nat.one_mul] at this
          rw [if_pos (by omega)]
          exact ⟨u,hu1,hu2,hmv.vp hu3⟩
         ·split at hk
          ·rename_i hko hkl
           have hjs:j<sz:=by rw [<-hR.el _ x' hk];exact (List.getElem?_eq_some_iff.1 hj).1
           obtain ⟨q,hq1,hq2⟩:=hR.rel _ x' j c hk hj
           have h5:k*sz=off*sz+(k - off)*sz:=by rw [<-Nat.add_mul];congr 1;omega
           have h6:(k - off+1)*sz<=m*sz:=Nat.mul_le_mul_right _ (by omega)
           rw [Nat.add_mul,Nat.one_mul] at h6
           rw [if_neg (by omega),if_pos (by omega)]
           refine ⟨q,?_,hR.one q (List.mem_iff_getElem?.2 ⟨_,hq1⟩),hmv.vp hq2⟩
           rw [show og+(k*sz+j) - (og+off*sz)=(k - off)*sz+j from by omega]
           rw [List.getElem?_toArray,hzv,List.getElem?_take,if_pos (by omega)]
           exact hq1
          ·rename_i hko hkl
           obtain ⟨u,hu1,hu2,hu3⟩:=wH k x' j c hk hj
           have h5:(off+m)*sz<=k*sz:=Nat.mul_le_mul_right _ (by omega)
           rw [Nat.add_mul] at h5
           rw [if_neg (by omega),if_neg (by omega)]
           exact ⟨u,hu1,hu2,hmv.vp hu3⟩
   ·cases he
  ·cases he
 ·cases he
end
end Go.Eng
namespace Go.Eng
open Go
section
variable {P:Program} {C:Ctx} {ρ:Nat->Loc} {U:Nat->Prop} {h:List (Nat×Ob)} {w:World} {nm:Nat} {t:List (Nat×AV)} {a:Act} {o:Oper} {e:E}
theorem afk {so:SOp} (hs:strip P o=some so) (hr:HR C ρ U h w) (ht:Tm C ρ U w t a) (hn:¬ U nm) (he:av nm t h so=some e) (hp:e.pre):
  Run C ρ U h w nm ((execOp a.eval o).run P w) e:=by
 unfold strip at hs
 split at hs
 ·rename_i x hop;cases hs;exact Mr hr ht (.inl hop) he
 ·rename_i x hop;cases hs;exact Mr hr ht (.inr hop) he
 ·rename_i c x y hop;cases hs;exact aev hr ht hop he
 ·rename_i el hop
  split at hs
  ·rename_i zs hz;cases hs;exact aeM hr hn hz hop he
  ·cases hs
 ·rename_i el x hop;cases hs;exact aeN hr ht hn hop he
 ·rename_i ty parts hop
  split at hs
  ·rename_i fs hu
   split at hs
   ·rename_i zs hz
    split at hs
    ·rename_i ps hps
     split at hs
     ·rename_i hall
      cases hs
      exact aeR hr ht hu hz hps (fun f hf=>List.all_eq_true.1 hall f hf) hop he
     ·cases hs
    ·cases hs
   ·cases hs
  ·rename_i n el hu
   split at hs
   ·rename_i zs hz
    split at hs
    ·rename_i sz hsz
     cases hs
     exact aeS hr ht hu hz hsz hop he
    ·cases hs
   ·cases hs
  ·cases hs
 ·rename_i ty len parts hop
  split at hs
  ·rename_i el hu
   split at hs
   ·rename_i zs hz
    split at hs
    ·rename_i sz hsz
     split at hs
     ·rename_i hc
      cases hs
      exact ae9 hr ht hn hu hz hsz hc.1 hc.2.1 hc.2.2.1 hc.2.2.2 hop he
     ·cases hs
    ·cases hs
   ·cases hs
  ·cases hs
 ·rename_i ty x hop
  split at hs
  ·rename_i ag ha
   split at hs
   ·rename_i sz hsz;cases hs;exact aeD hr ht ha hsz hop he hp
   ·cases hs
  ·cases hs
 ·rename_i ty x y hop
  split at hs
  ·rename_i sz hsz;cases hs;exact aeO hr ht hsz hop he hp
  ·cases hs
 ·rename_i x hop;cases hs;exact aeG hr ht hop he
 ·rename_i op ty x y ty' hop
  split at hs
  ·rename_i fs hu
   split at hs
   ·rename_i ks hk
    split at hs
    ·rename_i hc
     split at hs
     ·cases hs;exact MN (neg:=false) hr ht hu hk hc.1 hc.2 hop he
     ·cases hs;exact MN (neg:=true) hr ht hu hk hc.1 hc.2 hop he
     ·cases hs
    ·cases hs
   ·cases hs;simp [av] at he
  ·cases hs;exact Mx hr ht hop he hp
  ·cases hs;exact Mx hr ht hop he hp
  ·rename_i hu
   split at hs
   ·cases hs;exact MB (neg:=false) hr ht hu hop he
   ·cases hs;exact MB (neg:=true) hr ht hu hop he
   ·cases hs
  ·split at hs
   ·cases hs;simp [av] at he
   ·cases hs;simp [av] at he
   ·cases hs
  ·cases hs
 ·rename_i op ty x hop;cases hs;exact aew hr ht hop he
 ·rename_i src dst x hop
  split at hs
  ·rename_i k0 k h1 h2;cases hs;exact aez hr ht h1 h2 hop he
  ·split at hs
   ·cases hs;simp [av] at he
   ·cases hs
  ·rename_i el h1 h2
   split at hs
   ·rename_i h3;cases hs;exact aff hr ht h1 h3 h2 hop he hp
   ·cases hs
  ·cases hs
 ·rename_i f first caps hop
  split at hs
  ·rename_i hf;cases hs;exact aeA hr ht hf hop he
  ·split at hs
   ·rename_i hf;cases hs;exact aeB hr ht hf hop he
   ·cases hs
 ·rename_i ty hop;cases hs;exact aeZ hr hn hop he
 ·rename_i ty m k hop
  split at hs
  ·rename_i kt et hu
   split at hs
   ·rename_i kk z hk hz
    cases hs
    refine ae1 hr ht hu hk ?_ hop he
    unfold zeroVal at hz
    split at hz
    ·rename_i i hi;exact ⟨i,hi,hz⟩
    ·cases hz
   ·cases hs
  ·cases hs
 ·rename_i ty m k hop
  split at hs
  ·rename_i kt et hu
   split at hs
   ·rename_i kk z hk hz
    cases hs
    refine ae2 hr ht hu hk ?_ hop he
    unfold zeroVal at hz
    split at hz
    ·rename_i i hi;exact ⟨i,hi,hz⟩
    ·cases hz
   ·cases hs
  ·cases hs
 ·rename_i ty m k x hop
  split at hs
  ·rename_i kt et hu
   split at hs
   ·rename_i kk hk;cases hs;exact ae3 hr ht hu hk hop he
   ·cases hs
  ·cases hs
 ·rename_i ty m k x hop
  split at hs
  ·rename_i kt et hu
   split at hs
   ·rename_i kk hk;cases hs;exact ae4 hr ht hu hk hop he
   ·cases hs
  ·cases hs
 ·rename_i ty l c hop
  split at hs
  ·rename_i el hu
   split at hs
   ·rename_i zs sz aP hz hsz hb
    split at hs
    ·rename_i hc;cases hs;exact aeY hr ht hn ⟨hu,hz,hsz,hb,hc.1,hc.2.1⟩ hc.2.2 hop he hp
    ·cases hs
   ·cases hs
  ·cases hs
 ·rename_i ty x lo hi mx hop
  split at hs
  ·rename_i el hu
   split at hs
   ·rename_i sz hsz;cases hs;exact afa hr ht hn hu hsz hop he hp
   ·cases hs
  ·rename_i hu
   split at hs
   ·cases hs;exact afb hr ht hu hop he hp
   ·cases hs
  ·rename_i n el hu
   split at hs
   ·split at hs
    ·rename_i sz hsz;cases hs;exact afc hr ht hu hsz hop he
    ·cases hs
   ·cases hs
  ·cases hs
 ·rename_i ty x f hop
  split at hs
  ·rename_i fs hu
   split at hs
   ·rename_i fd hf
    split at hs
    ·rename_i sz hsz
     split at hs
     ·cases hs
     ·rename_i hne;cases hs;exact aeE hr ht hu hf hsz hne hop he hp
    ·cases hs
   ·cases hs
  ·cases hs
 ·rename_i ty x f hop
  split at hs
  ·rename_i fs hu
   split at hs
   ·rename_i fd hf
    split at hs
    ·rename_i sz ag hsz ha;cases hs;exact aeF hr ht hu hf hsz ha hop he
    ·cases hs
   ·cases hs
  ·cases hs
 ·rename_i ty x i hop
  split at hs
  ·rename_i el hu
   split at hs
   ·rename_i sz hsz;cases hs;exact aeI hr ht hu hsz hop he hp
   ·cases hs
  ·rename_i n el hu
   split at hs
   ·rename_i sz hsz;cases hs;exact aeH hr ht hu hsz hop he hp
   ·cases hs
  ·cases hs
 ·rename_i ty x i hop
  split at hs
  ·rename_i n el hu
   split at hs
   ·rename_i sz ag hsz ha;cases hs;exact afe hr ht hu hsz ha hop he hp
   ·cases hs
  ·rename_i hu;cases hs;exact afd hr ht hu hop he hp
  ·cases hs
 ·rename_i x i hop;cases hs;exact aex hr ht hop he
 ·cases hs;simp [av] at he
 ·cases hs;simp [av] at he
 ·rename_i c hop
  split at hs
  ·cases hs;simp [av] at he
  ·rename_i hc
   split at hs
   ·rename_i ty x h2 h3
    split at hs
    ·rename_i el hu;cases hs;exact aeK hr ht hu hc h2 h3 hop he
    ·rename_i hu;cases hs;exact aeJ hr ht hu hc h2 h3 hop he
    ·cases hs
   ·cases hs
  ·rename_i hc
   split at hs
   ·rename_i ty x h2 h3
    split at hs
    ·rename_i el hu;cases hs;exact afg hr ht hu hc h2 h3 hop he
    ·cases hs
   ·cases hs
  ·rename_i hc
   split at hs
   ·rename_i ty ty' s x h2 h3
    have h2':c.argTypes= #[ty,ty']:=Array.toList_inj.1 (by simpa using h2)
    have h3':c.args= #[s,x]:=Array.toList_inj.1 (by simpa using h3)
    split at hs
    ·rename_i hty
     subst hty
     split at hs
     ·rename_i el hu
      split at hs
      ·rename_i zs sz aP hz hsz hb
       split at hs
       ·rename_i hcc;cases hs;exact aeP hr ht hn ⟨hu,hz,hsz,hb,hcc.1,hcc.2⟩ hc h2' h3' hop he hp
       ·cases hs
      ·cases hs
     ·cases hs
    ·split at hs
     ·rename_i el q hu hti
      split at hs
      ·rename_i zs sz aP hz hsz hb
       split at hs
       ·rename_i hcc;cases hs;exact afh hr ht hn ⟨hu,hz,hsz,hb,hcc.1,hcc.2.1⟩ hcc.2.2 hti hc h2' h3' hop he hp
       ·cases hs
      ·cases hs
     ·cases hs
   ·cases hs
  ·rename_i hc
   split at hs
   ·rename_i ty x h2 h3
    split at hs
    ·rename_i el hu
     split at hs
     ·rename_i zs sz hz hsz
      split at hs
      ·rename_i hcc;cases hs;exact afi hr ht hu hz hsz hcc.1 hcc.2.2 hc h2 h3 hop he hp
      ·cases hs
     ·cases hs
    ·cases hs
   ·cases hs
  ·rename_i hc;cases hs;exact MX (mx:=true) hr ht hc hop he
  ·rename_i hc;cases hs;exact MX (mx:=false) hr ht hc hop he
  ·rename_i hc
   split at hs
   ·rename_i ty d x h2 h3
    have h3':c.args= #[d,x]:=Array.toList_inj.1 (by simpa using h3)
    split at hs
    ·rename_i el hu
     split at hs
     ·rename_i sz hsz
      split at hs
      ·rename_i hpos;cases hs;exact afj hr ht hu hsz hpos hc h2 h3' hop he hp
      ·cases hs;simp [av] at he
     ·cases hs;simp [av] at he
    ·cases hs;simp [av] at he
   ·cases hs;simp [av] at he
  ·cases hs
 ·cases hs
end
end Go.Eng
namespace Go.Eng
open Go
def sJ (nt:Nat):List SOper->Bool
 |[]=>true
 |o::l=>(match o.dst with
  |some d=>decide (d<nt)
  |none=>true)&&sJ nt l
def lD (nt:Nat):SCode->Bool
 | .region ops _=>sJ nt ops
 | .seq a b=>lD nt a&&lD nt b
 | .cond _ x y=>lD nt x&&lD nt y
 | .block _ c=>lD nt c
 | .loop c=>lD nt c
 |_=>true
section
variable {P:Program} {C:Ctx} {ρ:Nat->Loc} {U:Nat->Prop} {h:List (Nat×Ob)} {w:World} {nm:Nat} {t:List (Nat×AV)} {a:Act} {o:Oper}
theorem Tm.put (ht:Tm C ρ U w t a) {dst:Option Nat} {x:AV} {v:Value} (hv:VR w (ay C ρ w) ρ U x v) (hd:∀ d,dst=some d->d<a.tmps.size):Tm C ρ U w (aZ t dst x) (a.put dst v):=by
 intro k y hk
 cases dst with
 |none=>exact ht k y hk
 |some d=>
  have hlt:=hd d rfl
  simp only [aZ,get] at hk
  by_cases e:d=k
  ·subst e
   rw [if_pos rfl] at hk
   cases hk
   exact ⟨v,by simp [Act.put,hlt],hv⟩
  ·rw [if_neg e] at hk
   obtain ⟨u,h1,h2⟩:=ht k y hk
   exact ⟨u,by simp only [Act.put,Array.getElem?_setIfInBounds];rw [if_neg e];exact h1,h2⟩
theorem jr (a:Act) (dst:Option Nat) (v:Value):(a.put dst v).tmps.size=a.tmps.size:=by
 cases dst<;>simp [Act.put]
theorem put_defers (a:Act) (dst:Option Nat) (v:Value):(a.put dst v).defers=a.defers:=by
 cases dst<;>simp [Act.put]
structure gQ (C:Ctx) (ρ:Nat->Loc) (U:Nat->Prop) (t:List (Nat×AV)) (h:List (Nat×Ob)) (a:Act) (w:World):Prop where
 hr:HR C ρ U h w
 tm:Tm C ρ U w t a
 defers:a.defers=[]
 sz:a.tmps.size=C.nt
theorem H7 {c:Call} {f:Operand} {g:FuncId} {vs:Array Value} (hc:c.callee= .value f) (hf:a.eval f= .func (.func g) #[] vs) (ho:o.op= .call c) (hE:Enters P g):
  (execOp a.eval o).run P w= .ok (.enter g (c.args.map a.eval++vs)) w:=by
 obtain ⟨fn,h1,h2,h3⟩:=hE
 simp only [execOp,ho,resolve,hc,Deferred.ofValue,hf,Sem.run_bind,Sem.run_pure,Result.andThen_ok,invoke,callFunc,run_program,h1,h2,h3,Bool.false_eq_true,if_false,Array.empty_append]
theorem H8 {c:Call} {f:Operand} {g:FuncId} {vs:Array Value} (hc:c.callee= .value f) (hf:a.eval f= .func (.func g) vs #[]) (ho:o.op= .call c) (hE:Enters P g):
  (execOp a.eval o).run P w= .ok (.enter g (vs++c.args.map a.eval)) w:=by
 obtain ⟨fn,h1,h2,h3⟩:=hE
 simp only [execOp,ho,resolve,hc,Deferred.ofValue,hf,Sem.run_bind,Sem.run_pure,Result.andThen_ok,invoke,callFunc,run_program,h1,h2,h3,Bool.false_eq_true,if_false,Array.append_empty]
theorem VL.append {ok:Nat->Prop} {cs ds:List AV} {us vs:Array Value} (h1:VL w ok ρ U cs us) (h2:VL w ok ρ U ds vs):VL w ok ρ U (cs++ds) (us++vs):=by
 refine ⟨by simp [h1.1,h2.1],fun i c u hi hu=> ?_⟩
 rw [List.getElem?_append] at hi
 rw [Array.getElem?_append] at hu
 have:=h1.1
 split at hi
 ·rw [if_pos (by omega)] at hu
  exact h1.2 i c u hi hu
 ·rw [if_neg (by omega)] at hu
  rw [<-this] at hu
  exact h2.2 _ c u hi hu
theorem DX {f:Operand} {args:List Operand} (hs:strip P o=some (.call f args)):∃ c,o.op= .call c/\c.callee= .value f/\c.args.toList=args:=by
 unfold strip at hs
 split at hs<;>(repeat' split at hs)<;>first
  |(cases hs;done)
  |(simp at hs;done)
  |skip
 all_goals (simp only [Option.some.injEq,SOp.call.injEq] at hs;obtain ⟨rfl,rfl⟩:=hs;exact ⟨_,by assumption,by assumption,rfl⟩)
theorem afl {neg:Bool} {x:Operand} (hs:strip P o=some (.oM neg x)):∃ t e n c t',o.op= .binOp (if neg then .neq else .eql) t x (.const (.slice none n c)) t'/\P.underlying t=some (.slice e):=by
 unfold strip at hs
 split at hs<;>(repeat' split at hs)<;>first
  |(cases hs;done)
  |(simp at hs;done)
  |skip
 all_goals (simp only [Option.some.injEq,SOp.oM.injEq] at hs;obtain ⟨rfl,rfl⟩:=hs;exact ⟨_,_,_,_,_,by assumption,by assumption⟩)
theorem H9 {neg:Bool} {x:Operand} {ty e ty':TypeId} {n c:Nat} {b:Option Addr} {n' c':Nat} (hty:P.underlying ty=some (.slice e)) (ho:o.op= .binOp (if neg then .neq else .eql) ty x (.const (.slice none n c)) ty')
  (hx:a.eval x= .slice b n' c'):(execOp a.eval o).run P w= .ok (.value (.bool (if neg then !b.isNone else b.isNone))) w:=by
 have e1:a.eval (.const (.slice none n c))= .slice none n c:=rfl
 cases neg
 ·simp only [Bool.false_eq_true,if_false] at ho ⊢
  have e2:eqGuard .eql ty x (.const (.slice none n c)) (.slice b n' c') (.slice none n c)=pure ():=rfl
  simp only [execOp,ho,hx,e1,e2,Sem.run_bind,Sem.run_pure,Result.andThen_ok,Lib.run_eql_slice_nil w ty e b n' c' n c hty]
 ·simp only [if_true] at ho ⊢
  have e2:eqGuard .neq ty x (.const (.slice none n c)) (.slice b n' c') (.slice none n c)=pure ():=rfl
  simp only [execOp,ho,hx,e1,e2,Sem.run_bind,Sem.run_pure,Result.andThen_ok,run_neq_slice_nil_any w ty e b n' c' n c hty]
theorem MZ {so:SOp} {gd:Option (Nat×Bool)} {af:List Nat} {Q:List (Nat×AV)->List (Nat×Ob)->Prop} {K:Exit->Act->World->Prop} {next:Act->World->Prop} (hs:strip P o=some so) (hS:gQ C ρ U t h a w) (hfr:∀ b,U b->¬ (nm<=b/\b<nm+8)) (hd:∀ d,o.dst=some d->d<C.nt)
  (hw:nP P nm ⟨o.dst,so,gd,af⟩ t h Q) (hn:∀ t' h' a' w' ρ' U',gQ C ρ' U' t' h' a' w'->(∀ b,U' b->U b\/(nm<=b/\b<nm+8))->Q t' h'->next a' w'):o.wp P a w next K:=by
 have hd':∀ d,o.dst=some d->d<a.tmps.size:=fun d h=>by rw [hS.sz];exact hd d h
 by_cases hcall:∃ f args,so= .call f args
 ·obtain ⟨f,args,rfl⟩:=hcall
  simp only [nP] at hw
  unfold uy at hw
  split at hw
  ·rename_i g caps xs hf hxs
   split at hw
   ·rename_i hg
    obtain ⟨hE,hW⟩:=hw
    obtain ⟨c,hop,hc,rfl⟩:=DX hs
    obtain ⟨vs,oQ,Ia⟩:=VR.GL (Nat.lt_trans hg (by decide)) (aL hS.tm hf)
    rw [nI,if_pos hg] at oQ
    have hargs:=yF hS.tm hxs
    have hvl:=hargs.append Ia
    unfold Oper.wp
    rw [H7 hc oQ hop hE]
    rw [Oper.upon_enter]
    have e0:c.args.map a.eval=(c.args.toList.map a.eval).toArray:=by apply Array.ext';simp
    rw [e0]
    refine (hW C ρ U w _ hS.hr hfr hvl).mono fun e w' hpost=> ?_
    obtain ⟨v,r,h',ρ',U',rfl,hr',hv',hk,hU,hQ⟩:=hpost
    refine hn _ _ _ _ ρ' U' ⟨hr',Tm.put (fun k x hx=> ?_) hv' hd',by rw [put_defers];exact hS.defers,by rw [jr];exact hS.sz⟩ hU hQ
    ·obtain ⟨u,h1,h2⟩:=hS.tm k x hx
     exact ⟨u,h1,hk _ _ h2⟩
   ·rename_i hg
    split at hw
    ·rename_i hg2
     obtain ⟨hE,hW⟩:=hw
     obtain ⟨c,hop,hc,rfl⟩:=DX hs
     obtain ⟨vs,oQ,Ia⟩:=VR.GL hg2 (aL hS.tm hf)
     rw [nI,if_neg hg] at oQ
     have hargs:=yF hS.tm hxs
     have hvl:=Ia.append hargs
     unfold Oper.wp
     rw [H8 hc oQ hop hE]
     rw [Oper.upon_enter]
     have e0:c.args.map a.eval=(c.args.toList.map a.eval).toArray:=by apply Array.ext';simp
     rw [e0]
     refine (hW C ρ U w _ hS.hr hfr hvl).mono fun e w' hpost=> ?_
     obtain ⟨v,r,h',ρ',U',rfl,hr',hv',hk,hU,hQ⟩:=hpost
     refine hn _ _ _ _ ρ' U' ⟨hr',Tm.put (fun k x hx=> ?_) hv' hd',by rw [put_defers];exact hS.defers,by rw [jr];exact hS.sz⟩ hU hQ
     ·obtain ⟨u,h1,h2⟩:=hS.tm k x hx
      exact ⟨u,h1,hk _ _ h2⟩
    ·exact hw.elim
  ·exact hw.elim
 ·by_cases hnil:∃ neg x,so= .oM neg x
  ·obtain ⟨neg,x,rfl⟩:=hnil
   obtain ⟨ty,e,n,c,ty',ho,hty⟩:=afl hs
   simp only [nP,DC] at hw
   have go1:∀ b n' c',a.eval x= .slice b n' c'->Q (aZ t o.dst (.v (.bool (if neg then !b.isNone else b.isNone)))) h->o.wp P a w next K:=by
    intro b n' c' hx hQ
    unfold Oper.wp
    rw [H9 hty ho hx,Oper.upon_value]
    exact hn _ _ _ _ ρ U ⟨hS.hr,Tm.put hS.tm (.p (.v _)) hd',by rw [put_defers];exact hS.defers,by rw [jr];exact hS.sz⟩ (fun b hb=> .inl hb) hQ
   split at hw
   ·rename_i b hk
    unfold wD at hk
    split at hk
    ·rename_i n' c' hx
     cases hk
     exact go1 none n' c' (aL hS.tm hx).bA hw
    ·rename_i sz y ys hx
     cases hk
     have hv:=(aL hS.tm hx).rY
     generalize hu:a.eval x=u at hv
     cases hv
     exact go1 (some _) _ _ hu hw
    ·cases hk
    ·cases hk
    ·cases hk
   ·rename_i hk
    have hsl:∃ b n' c',a.eval x= .slice b n' c':=by
     unfold wD at hk
     split at hk
     ·cases hk
     ·cases hk
     ·rename_i sz hx
      have hv:=(aL hS.tm hx).rY
      generalize hu:a.eval x=u at hv
      cases hv<;>exact ⟨_,_,_,rfl⟩
     ·rename_i hx
      obtain ⟨hu,⟨ad,len',cap',hsl⟩,hown⟩:=(aL hS.tm hx).oL
      exact ⟨_,_,_,hsl⟩
     ·cases hk
    obtain ⟨b,n',c',hx⟩:=hsl
    refine go1 b n' c' hx ?_
    cases hb:b.isNone
    ·simpa [hb] using hw.2
    ·simpa [hb] using hw.1
   ·exact hw.elim
  ·have hw':A8 nm t h so (av nm t h so) fun t h e=>Q (aZ t o.dst e.val) (e.upd++h):=by
    cases so<;>first|exact hw|exact absurd ⟨_,_,rfl⟩ hcall|exact absurd ⟨_,_,rfl⟩ hnil
   have main:∀ (t:List (Nat×AV)) (h:List (Nat×Ob)) (ρ:Nat->Loc) (U:Nat->Prop) (e:E),gQ C ρ U t h a w->(∀ b,U b->¬ (nm<=b/\b<nm+8))->av nm t h so=some e->e.pre->Q (aZ t o.dst e.val) (e.upd++h)->
     (∀ t' h' a' w' ρ' U',gQ C ρ' U' t' h' a' w'->(∀ b,U' b->U b\/(nm<=b/\b<nm+8))->Q t' h'->next a' w')->o.wp P a w next K:=by
    intro t h ρ U e hS hfr he hp hQ hn
    obtain ⟨v,w',ρ',U',hrun,hr',hv',hk,hU⟩:=afk hs hS.hr hS.tm (fun hu=>hfr _ hu ⟨Nat.le_refl _,by omega⟩) he hp
    have M0:gQ C ρ' U' (aZ t o.dst e.val) (e.upd++h) (a.put o.dst v) w':=
     ⟨hr',Tm.put (fun k x hx=>by
      obtain ⟨u,h1,h2⟩:=hS.tm k x hx
      exact ⟨u,h1,hk _ _ h2⟩) hv' hd',by rw [put_defers];exact hS.defers,by rw [jr];exact hS.sz⟩
    have iN:∀ b,U' b->U b\/(nm<=b/\b<nm+8):=fun b hb=>by
     rcases hU b hb with h1|h1
     ·exact .inl h1
     ·exact .inr (by omega)
    unfold Oper.wp
    rcases hrun with hrun|⟨rfl,hrun⟩
    ·rw [hrun,Oper.upon_value]
     exact hn _ _ _ _ ρ' U' M0 iN hQ
    ·rw [hrun,Oper.upon_skip]
     exact hn _ _ _ _ ρ' U' M0 iN hQ
   unfold A8 at hw'
   split at hw'
   ·rename_i e he
    exact main t h ρ U e hS hfr he hw'.1 hw'.2 hn
   ·obtain ⟨t',h',hW,hE⟩:=hw'
    unfold onE at hE
    split at hE
    ·rename_i e he
     obtain ⟨ρ',U',hR,iN⟩:=hW C ρ U a w ⟨hS.hr,hS.defers,hS.sz,hS.tm⟩
     exact main t' h' ρ' U' e ⟨hR.hr,hR.tm,hR.defers,hR.sz⟩ (fun b hb=>hfr b (iN b hb)) he hE.1 hE.2 fun t'' h'' a'' w'' Ib Ic Ie Ig afm=>
      hn t'' h'' a'' w'' Ib Ic Ie (fun b hb=>(Ig b hb).imp (iN b) id) afm
    ·exact hE.elim
theorem sK {ops:Array Oper} {draw:Bool} {so:SOper} (hs:stripOper P ops draw o=some so):
  strip P o=some so.op/\so.dst=o.dst/\(so.guard=none↔o.guard=none)/\∀ g wt,so.guard=some (g,wt)->∃ j,o.guard=some (j,wt)/\((ops[j]?).bind (·.dst))=some g:=by
 unfold stripOper at hs
 split at hs
 ·rename_i sp hsp
  split at hs
  ·rename_i hg
   cases hs
   exact ⟨hsp,rfl,by simp [hg],fun g wt e=>by simp at e⟩
  ·rename_i j wt hg
   split at hs
   ·rename_i g hgd
    cases hs
    refine ⟨hsp,rfl,by simp [hg],fun g' wt' e=> ?_⟩
    simp only [Option.some.injEq,Prod.mk.injEq] at e
    obtain ⟨rfl,rfl⟩:=e
    exact ⟨j,hg,hgd⟩
   ·cases hs
 ·cases hs
theorem yO {ops:Array Oper} {draw:Bool} {l:List Oper} {sl:List SOper} (hs:stripOps P ops draw (o::l)=some sl):
  ∃ so sl',sl=so::sl'/\stripOper P ops draw o=some so/\stripOps P ops draw l=some sl':=by
 unfold stripOps at hs
 split at hs
 ·rename_i so hso
  split at hs
  ·rename_i sl' hsl
   cases hs
   exact ⟨so,sl',rfl,hso,hsl⟩
  ·cases hs
 ·cases hs
theorem uG {ops:Array Oper} {j g:Nat} {wt b:Bool} (hg:o.guard=some (j,wt)) (hd:((ops[j]?).bind (·.dst))=some g) (hv:a.tmps[g]? =some (.bool b)):
  Region.wanted o (yielded ops a.tmps)=(b==wt):=by
 simp only [Region.wanted,hg,yielded,hd,Option.bind_some,hv]
 cases b<;>cases wt<;>rfl
theorem M4 {ops:Array Oper} {j g:Nat} {wt:Bool} {xs:Array Value} (hg:o.guard=some (j,wt)) (hd:((ops[j]?).bind (·.dst))=some g) (hv:a.tmps[g]? =some (.tuple xs)):
  Region.wanted o (yielded ops a.tmps)=false:=by
 simp only [Region.wanted,hg,yielded,hd,Option.bind_some,hv]
 cases wt<;>rfl
theorem gQ.skip (hS:gQ C ρ U t h a w) {dst:Option Nat} (hd:∀ d,dst=some d->d<C.nt):gQ C ρ U (aZ t dst (.v undef)) h (a.put dst undef) w:=
 ⟨hS.hr,Tm.put hS.tm (.p (.v _)) (fun d h=>by rw [hS.sz];exact hd d h),by rw [put_defers];exact hS.defers,by rw [jr];exact hS.sz⟩
theorem afo {ops:Array Oper} {draw:Bool} {K:Exit->Act->World->Prop} {Q:List (Nat×AV)->List (Nat×Ob)->Prop} (l:List Oper):
  ∀ (sl:List SOper) (nm:Nat) (t:List (Nat×AV)) (h:List (Nat×Ob)) (a:Act) (w:World) (ρ:Nat->Loc) (U:Nat->Prop),
   stripOps P ops draw l=some sl->sJ C.nt sl=true->gQ C ρ U t h a w->(∀ b,U b->b<nm)->wpOps P nm sl t h Q->
   (∀ t' h' a' w' ρ' U',gQ C ρ' U' t' h' a' w'->(∀ b,U' b->b<nm+8*sl.length)->Q t' h'->K .normal a' w')->wpList P ops K l a w:=by
 induction l with
 |nil=>
  intro sl nm t h a w ρ U hs _ hS hU hw hn
  simp only [stripOps,Option.some.injEq] at hs
  subst hs
  exact hn t h a w ρ U hS (fun b hb=>by have:=hU b hb;simp;omega) hw
 |cons o l ih=>
  intro sl nm t h a w ρ U hs hd hS hU hw hn
  obtain ⟨so,sl',rfl,hso,hsl⟩:=yO hs
  obtain ⟨h1,h2,h3,h4⟩:=sK hso
  simp only [sJ,Bool.and_eq_true] at hd
  have hdst:∀ d,o.dst=some d->d<C.nt:=fun d e=>by
   have:=hd.1
   rw [h2,e] at this
   simpa using this
  have hfr:∀ b,U b->¬ (nm<=b/\b<nm+8):=fun b hb=>by have:=hU b hb;omega
  have hrest:∀ t' h' a' w' ρ' U',gQ C ρ' U' t' h' a' w'->(∀ b,U' b->U b\/(nm<=b/\b<nm+8))->wpOps P (nm+8) sl' t' h' Q->wpList P ops K l a' w':=
   fun t' h' a' w' ρ' U' hS' iN hw'=>ih sl' (nm+8) t' h' a' w' ρ' U' hsl hd.2 hS' (fun b hb=>by
    rcases iN b hb with e|e
    ·have:=hU b e;omega
    ·omega) hw' fun t'' h'' a'' w'' Ib Ic Ie Ig hQ=>hn t'' h'' a'' w'' Ib Ic Ie (fun b hb=>by have:=Ig b hb;simp only [List.length_cons];omega) hQ
  have hdo:∀ {gd af},nP P nm ⟨o.dst,so.op,gd,af⟩ t h (fun t' h'=>wpOps P (nm+8) sl' t' h' Q)->o.wp P a w (wpList P ops K l) K:=fun hw'=>
   MZ h1 hS hfr hdst hw' hrest
  have yP:wpOps P (nm+8) sl' (aZ t o.dst (.v undef)) h Q->wpList P ops K l (a.put o.dst undef) w:=fun hw'=>
   hrest _ _ _ _ ρ U (hS.skip hdst) (fun b hb=> .inl hb) hw'
  obtain ⟨dst,op,gd,af⟩:=so
  subst h2
  simp only [wpOps] at hw
  simp only [wpList]
  split at hw
  ·rename_i hg
   have hg':=h3.1 rfl
   have:Region.wanted o (yielded ops a.tmps)=true:=by simp [Region.wanted,hg']
   rw [if_pos this]
   exact .inl (hdo hw)
  ·rename_i g wt
   obtain ⟨j,hj,hjd⟩:=h4 g wt rfl
   unfold qm at hw
   split at hw
   ·rename_i b hx
    obtain ⟨u,hu,hv⟩:=hS.tm g _ hx
    have:=hv.bA
    subst this
    rw [uG hj hjd hu]
    cases b<;>cases wt
    ·exact .inl (hdo (hw.2 rfl))
    ·exact yP (hw.2 rfl)
    ·exact yP (hw.1 rfl)
    ·exact .inl (hdo (hw.1 rfl))
   ·rename_i xs hx
    obtain ⟨u,hu,hv⟩:=hS.tm g _ hx
    have:=hv.bA
    subst this
    rw [M4 hj hjd hu]
    exact yP hw
   ·exact hw.elim
end
end Go.Eng
namespace Go.Eng
open Go
theorem yQ {t t':List (Nat×AV)}:∀ (l:List Operand),(∀ x ∈ l,ev t' x=ev t x)->kN t' l=kN t l
 |[],_=>rfl
 |x::l,h=>by
  simp only [kN,h x (List.mem_cons_self ..),yQ l fun y hy=>h y (List.mem_cons_of_mem _ hy)]
theorem M5 {t t':List (Nat×AV)}:∀ (l:List (Nat×Nat×Operand)),(∀ x ∈ l.map (fun p=>p.2.2),ev t' x=ev t x)->r9 t' l=r9 t l
 |[],_=>rfl
 |(a,b,x)::l,h=>by
  simp only [r9,h x (by simp),M5 l fun y hy=>h y (by simp only [List.map_cons,List.mem_cons];exact .inr hy)]
theorem M6 {t t':List (Nat×AV)} {sz:Nat}:∀ (l:List (Nat×Operand)),(∀ x ∈ l.map (fun p=>p.2),ev t' x=ev t x)->si t' sz l=si t sz l
 |[],_=>rfl
 |(a,x)::l,h=>by
  simp only [si,h x (by simp),M6 l fun y hy=>h y (by simp only [List.map_cons,List.mem_cons];exact .inr hy)]
theorem M7 {h h':List (Nat×Ob)}:∀ (ys:List AV),(∀ b ∈ bQ ys,get h' b=get h b)->l7 h' ys=l7 h ys
 |[],_=>rfl
 |c::cs,hh=>by
  simp only [bQ,List.mem_append] at hh
  have e1:su h' c=su h c:=by
   cases c<;>simp only [su]
   rename_i b sz off len
   rw [hh b (.inl (by simp [sj]))]
  simp only [l7,e1,M7 cs fun b hb=>hh b (.inr hb)]
theorem afp {y:AV} {ys:List AV} (h:nN y=some ys):bQ ys=Dy y:=by
 unfold nN at h
 split at h
 ·split at h
  ·cases h;rfl
  ·cases h
 ·rename_i hna
  split at h
  ·cases h
   have:Dy y=sj y:=by
    cases y<;>first|rfl|exact absurd rfl (hna _)
   rw [this];simp [bQ]
  ·cases h
theorem M8 {t t':List (Nat×AV)} {h h':List (Nat×Ob)} {sz:Nat}:∀ (l:List (Nat×Operand)),(∀ x ∈ l.map (fun p=>p.2),ev t' x=ev t x)->(∀ b ∈ A9 t l,get h' b=get h b)->l8 t' h' sz l=l8 t h sz l
 |[],_,_=>rfl
 |(a,x)::l,hx,hb=>by
  simp only [A9,List.mem_append] at hb
  have e1:=hx x (by simp)
  have e2:=M8 (h:=h) (h':=h') (sz:=sz) l (fun y hy=>hx y (by simp only [List.map_cons,List.mem_cons];exact .inr hy)) (fun b hm=>hb b (.inr hm))
  simp only [l8,e1,e2]
  cases he:ev t x with
  |none=>rfl
  |some y=>
   rw [he] at hb
   cases hl:l8 t h sz l with
   |none=>rfl
   |some r=>
    obtain ⟨l',bs⟩:=r
    cases hc:nN y with
    |none=>simp only [hc]
    |some ys=>
     have e3:l7 h' ys=l7 h ys:=M7 ys fun b hm=>hb b (.inl (by simp only;rw [<-afp hc];exact hm))
     simp only [hc,e3]
theorem DY {t t':List (Nat×AV)} {d:Nat} (x:Option Operand) (h:∀ y ∈ x.toList,ev t' y=ev t y):bound t' d x=bound t d x:=by
 cases x with
 |none=>rfl
 |some y=>simp only [bound,h y (by simp)]
theorem Ih {h h':List (Nat×Ob)} {sz:Nat} (x:Option AV) (hb:∀ b ∈ bX x,get h' b=get h b):kP h' sz x=kP h sz x:=by
 unfold kP
 split<;>try rfl
 rename_i b sz' off len
 rw [hb b (by simp [bX,AV.iK])]
theorem afq {nm:Nat} {t t':List (Nat×AV)} {h h':List (Nat×Ob)} (op:SOp) (hx:∀ x ∈ sD op,ev t' x=ev t x) (hb:∀ b ∈ bR t op,get h' b=get h b):
  av nm t' h' op=av nm t h op:=by
 cases op<;>simp only [sD,List.mem_cons,List.mem_append,List.not_mem_nil,or_false,forall_eq_or_imp,forall_eq] at hx<;>
  simp only [bR,List.not_mem_nil,List.mem_append] at hb<;>simp only [av]
 case jL x=>simp only [hx]
 case pick a b c=>simp only [hx]
 case box x=>simp only [hx]
 case build zs ps=>rw [M5 ps hx]
 case iJ e sz zs len ps=>rw [M6 ps hx,M8 ps hx hb]
 case load ag sz x=>
  rw [hx]
  cases hy:ev t x with
  |none=>rfl
  |some y=>cases y<;>first
   |rfl
   |(simp only [hy,bX,AV.iK,List.mem_cons,List.not_mem_nil,or_false,forall_eq] at hb;first|(simp only [hb];done)|(split<;>simp_all;done)|(cases z0<;>first|rfl|(rename_i y;cases y<;>first|rfl|(rename_i y;cases y<;>first|rfl|simp only [hb]))))
 case store sz x y=>
  rw [hx.1,hx.2]
  generalize ev t y=z0
  cases hy:ev t x with
  |none=>cases z0<;>rfl
  |some y=>cases y<;>first
   |rfl
   |(simp only [hy,bX,AV.iK,List.mem_cons,List.not_mem_nil,or_false,forall_eq] at hb;first|(simp only [hb];done)|(split<;>simp_all;done)|(cases z0<;>first|rfl|(rename_i y;cases y<;>first|rfl|(rename_i y;cases y<;>first|rfl|simp only [hb]))))
 case jM x=>
  rw [hx]
  cases hy:ev t x with
  |none=>rfl
  |some y=>cases y<;>first
   |rfl
   |(simp only [hy,bX,AV.iK,List.mem_cons,List.not_mem_nil,or_false,forall_eq] at hb;first|(simp only [hb];done)|(split<;>simp_all;done)|(cases z0<;>first|rfl|(rename_i y;cases y<;>first|rfl|(rename_i y;cases y<;>first|rfl|simp only [hb]))))
 case uo n sz x=>
  rw [hx]
  cases hy:ev t x with
  |none=>rfl
  |some y=>
   cases y
   case ptr b j=>
    simp only [hy,bX,AV.iK,List.mem_cons,List.not_mem_nil,or_false,forall_eq] at hb
    cases j with
    |zero=>simp only [hb]
    |succ j=>rfl
   all_goals rfl
 case bin op x y=>simp only [hx]
 case eqs neg ks x y=>simp only [hx]
 case jN neg x y=>simp only [hx]
 case un op x=>simp only [hx]
 case conv k x=>simp only [hx]
 case lg x=>rw [hx,Ih _ hb]
 case nJ f cs=>rw [yQ cs hx]
 case yB f cs=>rw [yQ cs hx]
 case look z m k=>
  rw [hx.1,hx.2]
  generalize ev t k=z0
  cases hy:ev t m with
  |none=>cases z0<;>rfl
  |some y=>cases y<;>first
   |rfl
   |(simp only [hy,bX,AV.iK,List.mem_cons,List.not_mem_nil,or_false,forall_eq] at hb;first|(simp only [hb];done)|(split<;>simp_all;done)|(cases z0<;>first|rfl|(rename_i y;cases y<;>first|rfl|(rename_i y;cases y<;>first|rfl|simp only [hb]))))
 case um z m k=>
  rw [hx.1,hx.2]
  generalize ev t k=z0
  cases hy:ev t m with
  |none=>cases z0<;>rfl
  |some y=>cases y<;>first
   |rfl
   |(simp only [hy,bX,AV.iK,List.mem_cons,List.not_mem_nil,or_false,forall_eq] at hb;first|(simp only [hb];done)|(split<;>simp_all;done)|(cases z0<;>first|rfl|(rename_i y;cases y<;>first|rfl|(rename_i y;cases y<;>first|rfl|simp only [hb]))))
 case jO m k x=>
  rw [hx.1,hx.2.1,hx.2.2]
  generalize ev t k=z0
  generalize ev t x=z1
  cases hy:ev t m with
  |none=>cases z0<;>cases z1<;>rfl
  |some y=>cases y<;>first
   |rfl
   |(simp only [hy,bX,AV.iK,List.mem_cons,List.not_mem_nil,or_false,forall_eq] at hb;first|(simp only [hb];done)|(split<;>simp_all;done)|(cases z0<;>first|rfl|(rename_i y;cases y<;>first|rfl|(rename_i y;cases y<;>first|rfl|simp only [hb]))))
 case lX e sz bytes zs l c=>simp only [hx]
 case slice sz x lo hi mx=>
  have e1:bound t' 0 lo=bound t 0 lo:=DY lo fun y hy=>hx.2 y (.inl hy)
  have e2:∀ d,bound t' d hi=bound t d hi:=fun d=>DY hi fun y hy=>hx.2 y (.inr (.inl hy))
  cases mx with
  |some m=>
   have e3:ev t' m=ev t m:=hx.2 m (.inr (.inr (by simp)))
   cases hi with
   |none=>
    simp only [e1,e3,hx.1]
    generalize bound t 0 lo=z0
    cases ev t x with
    |none=>cases z0<;>rfl
    |some y=>cases y<;>cases z0<;>first|rfl|(simp only [];done)|(split<;>rfl)|(split<;>simp_all)
   |some q=>
    have e4:ev t' q=ev t q:=hx.2 q (.inr (.inl (by simp)))
    simp only [e1,e3,e4,hx.1]
    generalize bound t 0 lo=z0
    cases hy:ev t x with
    |none=>cases z0<;>rfl
    |some y=>cases y<;>cases z0<;>first|rfl|(simp only [];done)|(split<;>rfl)|(split<;>simp_all<;>(try (simp only [bX,AV.iK,List.mem_cons,List.not_mem_nil,or_false,forall_eq] at hb;simp only [hb])))
  |none=>
  simp only [e1,e2]
  rw [hx.1]
  generalize bound t 0 lo=z0
  cases hy:ev t x with
  |none=>cases z0<;>rfl
  |some y=>cases y<;>first
   |rfl
   |(simp only [hy,bX,AV.iK,List.mem_cons,List.not_mem_nil,or_false,forall_eq] at hb;first|(simp only [hb];done)|(split<;>simp_all;done)|(cases z0<;>first|rfl|(rename_i y;cases y<;>first|rfl|(rename_i y;cases y<;>first|rfl|simp only [hb]))))
 case nK x lo hi=>
  have e1:bound t' 0 lo=bound t 0 lo:=DY lo fun y hy=>hx.2 y (.inl hy)
  have e2:∀ d,bound t' d hi=bound t d hi:=fun d=>DY hi fun y hy=>hx.2 y (.inr hy)
  simp only [e1,e2,hx.1]
 case jP off x=>
  rw [hx]
  cases hy:ev t x with
  |none=>rfl
  |some y=>cases y<;>first
   |rfl
   |(simp only [hy,bX,AV.iK,List.mem_cons,List.not_mem_nil,or_false,forall_eq] at hb;first|(simp only [hb];done)|(split<;>simp_all;done)|(cases z0<;>first|rfl|(rename_i y;cases y<;>first|rfl|(rename_i y;cases y<;>first|rfl|simp only [hb]))))
 case nL ag off sz x=>simp only [hx]
 case lY sz x i=>
  rw [hx.1,hx.2]
  generalize ev t i=z0
  cases hy:ev t x with
  |none=>cases z0<;>rfl
  |some y=>cases y<;>first
   |rfl
   |(simp only [hy,bX,AV.iK,List.mem_cons,List.not_mem_nil,or_false,forall_eq] at hb;first|(simp only [hb];done)|(split<;>simp_all;done)|(cases z0<;>first|rfl|(rename_i y;cases y<;>first|rfl|(rename_i y;cases y<;>first|rfl|simp only [hb]))))
 case lZ len sz x i=>
  rw [hx.1,hx.2]
  generalize ev t i=z0
  cases hy:ev t x with
  |none=>cases z0<;>rfl
  |some y=>cases y<;>first
   |rfl
   |(simp only [hy,bX,AV.iK,List.mem_cons,List.not_mem_nil,or_false,forall_eq] at hb;first|(simp only [hb];done)|(split<;>simp_all;done)|(cases z0<;>first|rfl|(rename_i y;cases y<;>first|rfl|(rename_i y;cases y<;>first|rfl|simp only [hb]))))
 case idx ag len sz x i=>simp only [hx]
 case idxs x i=>simp only [hx]
 case len x=>
  rw [hx]
  cases hy:ev t x with
  |none=>rfl
  |some y=>cases y<;>first
   |rfl
   |(simp only [hy,bX,AV.iK,List.mem_cons,List.not_mem_nil,or_false,forall_eq] at hb;first|(simp only [hb];done)|(split<;>simp_all;done)|(cases z0<;>first|rfl|(rename_i y;cases y<;>first|rfl|(rename_i y;cases y<;>first|rfl|simp only [hb]))))
 case nM x=>simp only [hx]
 case cap x=>simp only [hx]
 case app e sz bytes zs s x=>
  rw [hx.1,hx.2,Ih (ev t x) fun b hb'=>hb b (.inr hb')]
  have hb:=fun b h=>hb b (.inl h)
  cases hy:ev t s with
  |none=>rfl
  |some y=>cases y<;>first
   |rfl
   |(simp only [hy,bX,AV.iK,List.mem_cons,List.not_mem_nil,or_false,forall_eq] at hb;first|(simp only [hb];done)|(split<;>simp_all;done)|(cases z0<;>first|rfl|(rename_i y;cases y<;>first|rfl|(rename_i y;cases y<;>first|rfl|simp only [hb]))))
 case copy sz d x=>
  rw [hx.1,hx.2,Ih (ev t x) fun b hb'=>hb b (.inr hb')]
  have hb:=fun b h=>hb b (.inl h)
  cases hy:ev t d with
  |none=>rfl
  |some y=>cases y<;>first
   |rfl
   |(simp only [hy,bX,AV.iK,List.mem_cons,List.not_mem_nil,or_false,forall_eq] at hb;first|(simp only [hb];done)|(split<;>simp_all;done)|(cases z0<;>first|rfl|(rename_i y;cases y<;>first|rfl|(rename_i y;cases y<;>first|rfl|simp only [hb]))))
 case lm e sz bytes zs s x=>simp only [hx]
 case lq sz zs x=>
  rw [hx]
  cases hy:ev t x with
  |none=>rfl
  |some y=>cases y<;>first
   |rfl
   |(simp only [hy,bX,AV.iK,List.mem_cons,List.not_mem_nil,or_false,forall_eq] at hb;first|(simp only [hb];done)|(split<;>simp_all;done)|(cases z0<;>first|rfl|(rename_i y;cases y<;>first|rfl|(rename_i y;cases y<;>first|rfl|simp only [hb]))))
 case ext i x=>simp only [hx]
 case l5 mx xs=>rw [yQ xs hx]
end Go.Eng
namespace Go.Eng
open Go
section fold
variable {α β:Type}
def dM (u:α->List (Nat×β)):List α->(Nat->Bool)->List (Nat×β)->List (Nat×β)
 |[],_,t=>t
 |x::L,D,t=>dM u L (fun i=>D (i+1)) (bif D 0 then u x++t else t)
def keys (us:List (Nat×β)):List Nat:=us.map Prod.fst
theorem DZ {us t:List (Nat×β)} {k:Nat} (h:k ∈ keys us):get (us++t) k=get us k:=by
 induction us with
 |nil=>simp [keys] at h
 |cons p us ih=>
  obtain ⟨a,b⟩:=p
  simp only [List.cons_append,get]
  by_cases e:a=k
  ·rw [if_pos e,if_pos e]
  ·rw [if_neg e,if_neg e]
   simp only [keys,List.map_cons,List.mem_cons] at h
   exact ih (h.resolve_left (fun h=>e h.symm))
theorem M9 {us t:List (Nat×β)} {k:Nat} (h:k ∉ keys us):get (us++t) k=get t k:=by
 induction us with
 |nil=>rfl
 |cons p us ih=>
  obtain ⟨a,b⟩:=p
  simp only [keys,List.map_cons,List.mem_cons,not_or] at h
  simp only [List.cons_append,get]
  rw [if_neg (fun e=>h.1 e.symm)]
  exact ih h.2
variable {u:α->List (Nat×β)}
theorem wN:∀ (L:List α) (D E:Nat->Bool) (t t':List (Nat×β)) (k:Nat),get t k=get t' k->
  (∀ i x,L[i]? =some x->k ∈ keys (u x)->D i=E i)->get (dM u L D t) k=get (dM u L E t') k
 |[],_,_,_,_,_,h,_=>h
 |x::L,D,E,t,t',k,h,hk=>by
  simp only [dM]
  refine wN L _ _ _ _ k ?_ fun i y hy hm=>hk (i+1) y (by simpa using hy) hm
  by_cases hx:k ∈ keys (u x)
  ·rw [<-hk 0 x rfl hx]
   cases D 0
   ·exact h
   ·simp only [cond_true];rw [DZ hx,DZ hx]
  ·cases D 0<;>cases E 0<;>simp only [cond_true,cond_false,M9 hx]<;>exact h
theorem Bh:∀ (L:List α) (t:List (Nat×β)),dM u L (fun _=>false) t=t
 |[],_=>rfl
 |_::L,t=>by simp only [dM,cond_false];exact Bh L t
theorem Na:∀ (L:List α) (j:Nat) (x:α) (D:Nat->Bool) (t:List (Nat×β)) (k:Nat),L[j]? =some x->D j=true->k ∈ keys (u x)->
  (∀ i y,j<i->D i=true->L[i]? =some y->k ∉ keys (u y))->get (dM u L D t) k=get (u x) k
 |[],_,_,_,_,_,h,_,_,_=>by simp at h
 |y::L,0,x,D,t,k,h,hD,hk,hn=>by
  simp only [List.getElem?_cons_zero,Option.some.injEq] at h
  subst h
  simp only [dM,hD,cond_true]
  rw [wN L _ (fun _=>false) _ _ k rfl fun i z hz hm=> ?_,Bh,DZ hk]
  cases hd:D (i+1) with
  |false=>rfl
  |true=>exact absurd hm (hn (i+1) z (by omega) hd (by simpa using hz))
 |y::L,j+1,x,D,t,k,h,hD,hk,hn=>by
  simp only [dM]
  exact Na L j x _ _ k (by simpa using h) hD hk fun i z hi hd hz=>hn (i+1) z (by omega) hd (by simpa using hz)
def iO (D:Nat->Bool) (j:Nat):Nat->Bool:=fun i=>D i||i==j
theorem Nb {L:List α} {j:Nat} {x:α} {D:Nat->Bool} {t:List (Nat×β)} (h:L[j]? =some x) (hD:D j=false)
  (hn:∀ i y,j<i->D i=true->L[i]? =some y->∀ k ∈ keys (u x),k ∉ keys (u y)) (k:Nat):
  get (dM u L (iO D j) t) k=get (u x++dM u L D t) k:=by
 by_cases hk:k ∈ keys (u x)
 ·rw [DZ hk]
  refine Na L j x _ t k h (by simp [iO]) hk fun i y hi hd hy=>hn i y hi ?_ hy k hk
  have:(i==j)=false:=by simp;omega
  simpa [iO,this] using hd
 ·rw [M9 hk]
  refine wN L _ _ _ _ k rfl fun i y hy hm=> ?_
  by_cases e:i=j
  ·subst e
   rw [h] at hy;cases hy
   exact absurd hm hk
  ·simp [iO,e]
end fold
theorem Bj (acc:List Nat) (i:Nat):∀ (af:List Nat) (s:Nat),(af.foldl (fun s e=>s|||(2 ^ e|||acc.getD e 0)) s).testBit i=true->
  s.testBit i=true\/∃ e ∈ af,e=i\/(acc.getD e 0).testBit i=true
 |[],s,h=> .inl h
 |e::af,s,h=>by
  simp only [List.foldl_cons] at h
  rcases Bj acc i af _ h with h|⟨e',he',h⟩
  ·simp only [Nat.testBit_or,Bool.or_eq_true,Nat.testBit_two_pow,decide_eq_true_eq] at h
   rcases h with h|h|h
   ·exact .inl h
   ·exact .inr ⟨e,List.mem_cons_self ..,.inl h⟩
   ·exact .inr ⟨e,List.mem_cons_self ..,.inr h⟩
  ·exact .inr ⟨e',List.mem_cons_of_mem _ he',h⟩
def uI (as:List (List Nat)) (acc:List Nat):Prop:=
 ∀ (j m:Nat),acc[j]? =some m->∀ D:Nat->Bool,(∀ i af,D i=true->as[i]? =some af->∀ e ∈ af,D e=true)->(∀ af,as[j]? =some af->∀ e ∈ af,D e=true)->
  ∀ i,m.testBit i=true->D i=true
theorem yR (as:List (List Nat)):∀ (l:List (List Nat)) (acc:List Nat),as=as.take acc.length++l->acc.length<=as.length->uI as acc->uI as (ja acc l)
 |[],acc,_,_,h=>h
 |af::l,acc,he,hl,h=>by
  have cK:as[acc.length]? =some af:=by
   rw [he,List.getElem?_append_right (by simp;omega)]
   simp [Nat.min_eq_left hl]
  have hlt:acc.length<as.length:=(List.getElem?_eq_some_iff.1 cK).1
  refine yR as l _ ?_ (by simp;omega) ?_
  ·have e1:(acc++[af.foldl (fun s e=>s|||(2 ^ e|||acc.getD e 0)) 0]).length=acc.length+1:=by simp
   rw [e1,List.take_succ,cK]
   simpa using he
  ·intro j m hj D hD hj' i hi
   rw [List.getElem?_append] at hj
   split at hj
   ·exact h j m hj D hD hj' i hi
   ·rename_i hge
    have hj0:j - acc.length=0:=by
     rcases Nat.eq_zero_or_pos (j - acc.length) with e|e
     ·exact e
     ·rw [List.getElem?_eq_none (by simp;omega)] at hj;cases hj
    rw [hj0] at hj
    simp only [List.getElem?_cons_zero,Option.some.injEq] at hj
    have wO:j=acc.length:=by omega
    subst wO
    rw [<-hj] at hi
    rcases Bj acc i af 0 hi with h0|⟨e,he',h0⟩
    ·simp at h0
    ·have hDe:=hj' af cK e he'
     rcases h0 with rfl|h0
     ·exact hDe
     ·have hlt:e<acc.length:=by
       rcases Nat.lt_or_ge e acc.length with h1|h1
       ·exact h1
       ·rw [List.getD_eq_getElem?_getD,List.getElem?_eq_none h1] at h0
        simp at h0
      have hm:acc[e]? =some (acc.getD e 0):=by
       rw [List.getD_eq_getElem?_getD,List.getElem?_eq_getElem hlt];rfl
      exact h e _ hm D hD (fun Ii Ij e' Ik=>hD e Ii hDe Ij e' Ik) i h0
theorem Il:∀ (l:List SOper) (n:Nat),yE n l=true->∀ (j:Nat) (o:SOper),l[j]? =some o->∀ e ∈ o.after,e<n+j
 |[],_,_,j,o,h=>by simp at h
 |o::l,n,h,0,o',h'=>by
  simp only [List.getElem?_cons_zero,Option.some.injEq] at h'
  subst h'
  simp only [yE,Bool.and_eq_true,List.all_eq_true,decide_eq_true_eq] at h
  exact fun e he=>h.1 e he
 |o::l,n,h,j+1,o',h'=>by
  simp only [yE,Bool.and_eq_true] at h
  intro e he
  have:=Il l (n+1) h.2 j o' (by simpa using h') e he
  omega
theorem Nc (jQ:List Nat) (all:List (SOper×aR)):∀ (l:List (SOper×aR)) (n:Nat),Bb jQ all n l=true->
  ∀ (j:Nat) (y:SOper×aR),l[j]? =some y->∀ (i:Nat) (x:SOper×aR),i<n+j->all[i]? =some x->(jQ.getD (n+j) 0).testBit i=true\/uz x y=true
 |[],_,_,j,o,h=>by simp at h
 |y::l,n,h,0,y',h'=>by
  simp only [List.getElem?_cons_zero,Option.some.injEq] at h'
  subst h'
  simp only [Bb,Bool.and_eq_true,List.all_eq_true,Bool.or_eq_true] at h
  intro i x hi hx
  have:=h.1 (x,i) (by
   rw [List.mem_iff_getElem?]
   refine ⟨i,?_⟩
   rw [List.getElem?_zipIdx,List.getElem?_take,if_pos (by omega),hx]
   simp)
  simpa using this
 |y::l,n,h,j+1,y',h'=>by
  simp only [Bb,Bool.and_eq_true] at h
  intro i x hi hx
  have:=Nc jQ all l (n+1) h.2 j y' (by simpa using h') i x (by omega) hx
  have e:n+(j+1)=n+1+j:=by omega
  rw [e];exact this
theorem Im {xs ys:List Nat} (h:Ba xs ys=true) {b:Nat} (hb:b ∈ xs):b ∉ ys:=by
 simp only [Ba,List.all_eq_true,Bool.not_eq_true'] at h
 have:=h b hb
 simpa using this
end Go.Eng
