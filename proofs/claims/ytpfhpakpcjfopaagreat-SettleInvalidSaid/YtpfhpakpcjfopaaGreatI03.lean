/-
  Part of a proof: lemmas and definitions of this work.
  No condition.
-/
import Derived.Test.YtpfhpakpcjfopaaGreatI02
import Derived.Orders
import Derived.Test.YtpfhpakpcjfopaaGreatI00
set_option linter.all false
set_option maxRecDepth 100000
set_option maxHeartbeats 8000000
namespace Go.Eng
open Go
def uT (x:SOper×Rec):List (Nat×AV):=match x.1.dst with
 |some d=>[(d,x.2.val)]
 |none=>[]
def uH (x:SOper×Rec):List (Nat×Ob):=x.2.upd
def foot (r:Rec):aR:=(r.rd,r.upd.map Prod.fst)
def Rec.skip:Rec:=⟨.v undef,[],[]⟩
theorem Io (t:List (Nat×AV)) (o:SOper) (r:Rec):aZ t o.dst r.val=uT (o,r)++t:=by
 unfold aZ uT
 cases o.dst<;>rfl
section
variable {P:Program} {nm:Nat} {t t':List (Nat×AV)} {h h':List (Nat×Ob)}
theorem Bl:∀ (l:List Operand),(∀ k ∈ sF l,get t' k=get t k)->∀ x ∈ l,ev t' x=ev t x
 |[],_,x,hx=>by simp at hx
 |y::l,h,x,hx=>by
  rcases List.mem_cons.1 hx with rfl|hx
  ·cases x<;>simp only [sF,List.mem_cons,forall_eq_or_imp] at h<;>simp only [ev]
   exact h.1
  ·refine Bl l (fun k hk=>h k ?_) x hx
   cases y<;>simp only [sF,List.mem_cons]<;>first|exact hk|exact .inr hk
def D5 (P:Program) (nm:Nat) (o:SOper) (t:List (Nat×AV)) (h:List (Nat×Ob)) (r:Rec):Prop:=
 ∀ t' h',(∀ k ∈ sF (sD o.op),get t' k=get t k)->(∀ b ∈ r.rd,get h' b=get h b)->∀ Q:List (Nat×AV)->List (Nat×Ob)->Prop,
  Q (aZ t' o.dst r.val) (r.upd++h')->nP P nm o t' h' Q
theorem Nf {o:SOper} {k:Rec->Prop} (hw:yD P nm o t h k):∃ r,k r/\D5 P nm o t h r:=by
 unfold yD at hw
 split at hw
 ·rename_i f args hop
  unfold uy at hw
  split at hw
  ·rename_i g caps xs hf hxs
   split at hw
   ·rename_i hg
    obtain ⟨r,hc,hk⟩:=hw
    refine ⟨r,hk,fun t' h' ht hb Q hQ=> ?_⟩
    have he:=Bl _ ht
    simp only [hop,sD,List.mem_cons,forall_eq_or_imp] at he
    unfold nP
    rw [hop]
    simp only [he.1,yQ args he.2,hf,hxs,uy,if_pos hg]
    exact hc h' hb _ hQ
   ·rename_i hg
    split at hw
    ·rename_i hg2
     obtain ⟨r,hc,hk⟩:=hw
     refine ⟨r,hk,fun t' h' ht hb Q hQ=> ?_⟩
     have he:=Bl _ ht
     simp only [hop,sD,List.mem_cons,forall_eq_or_imp] at he
     unfold nP
     rw [hop]
     simp only [he.1,yQ args he.2,hf,hxs,uy,if_neg hg,if_pos hg2]
     exact hc h' hb _ hQ
    ·exact hw.elim
  ·exact hw.elim
 ·rename_i neg x hop
  unfold GV at hw
  split at hw
  ·rename_i b hb
   refine ⟨_,hw,fun t' h' ht _ Q hQ=> ?_⟩
   have he:=Bl _ ht
   simp only [hop,sD,List.mem_cons,List.not_mem_nil,or_false,forall_eq] at he
   unfold nP
   rw [hop]
   simp only [he,hb,DC]
   exact hQ
  ·exact hw.elim
 ·rename_i op h1 h2
  unfold onE at hw
  split at hw
  ·rename_i e he
   refine ⟨_,hw.2,fun t' h' ht hb Q hQ=> ?_⟩
   have hd:=afq (nm:=nm) o.op (Bl _ ht) hb
   rw [he] at hd
   unfold nP
   split
   ·rename_i f args hop;exact absurd hop (h1 f args)
   ·rename_i neg x hop;exact absurd hop (h2 neg x)
   ·unfold A8;rw [hd];exact ⟨hw.1,hQ⟩
  ·exact hw.elim
def D6 (P:Program) (nm:Nat) (o:SOper) (t:List (Nat×AV)) (h:List (Nat×Ob)) (r:Rec):Prop:=
 (o.guard=none/\D5 P nm o t h r)\/∃ g want,o.guard=some (g,want)/\
  ((get t g=some (.v (.bool want))/\D5 P nm o t h r)\/(r=Rec.skip/\((get t g=some (.v (.bool (!want))))\/∃ xs,get t g=some (.v (.tuple xs)))))
theorem Ng:∀ (l:List SOper) (nm:Nat) (acc:List aR) (t:List (Nat×AV)) (h:List (Nat×Ob)) (Q:List aR->List (Nat×AV)->List (Nat×Ob)->Prop),
  mg P nm l acc t h Q->∃ rs:List Rec,rs.length=l.length/\Q ((rs.map foot).reverse++acc) (dM uT (l.zip rs) (fun _=>true) t) (dM uH (l.zip rs) (fun _=>true) h)/\
   ∀ j o r,l[j]? =some o->rs[j]? =some r->D6 P (nm+8*j) o (dM uT (l.zip rs) (fun i=>decide (i<j)) t) (dM uH (l.zip rs) (fun i=>decide (i<j)) h) r
 |[],nm,acc,t,h,Q,hw=>⟨[],rfl,hw,fun j o r ho=>by simp at ho⟩
 |o::l,nm,acc,t,h,Q,hw=>by
  apply Classical.byContradiction
  intro hno
  have key:∀ r,D6 P nm o t h r->mg P (nm+8) l (foot r::acc) (aZ t o.dst r.val) (r.upd++h) Q->False:=by
   intro r hr hw
   obtain ⟨rs,h1,h2,h3⟩:=Ng l _ _ _ _ Q hw
   refine hno ⟨r::rs,by simp [h1],?_,fun j o' r' ho hr'=> ?_⟩
   ·simp only [List.map_cons,List.reverse_cons,List.append_assoc,List.singleton_append,List.zip_cons_cons,dM,cond_true]
    rw [<-Io]
    exact h2
   ·cases j with
    |zero=>
     simp only [List.getElem?_cons_zero,Option.some.injEq] at ho hr'
     subst ho;subst hr'
     simp only [Nat.mul_zero,Nat.add_zero,Nat.not_lt_zero,decide_false,Bh]
     exact hr
    |succ j=>
     have:=h3 j o' r' (by simpa using ho) (by simpa using hr')
     have e1:nm+8+8*j=nm+8*(j+1):=by omega
     rw [e1] at this
     simp only [List.zip_cons_cons,dM,Nat.zero_lt_succ,decide_true,cond_true,Nat.add_lt_add_iff_right]
     rw [<-Io]
     exact this
  have Ip:(∃ g want,o.guard=some (g,want)/\((get t g=some (.v (.bool (!want))))\/∃ xs,get t g=some (.v (.tuple xs))))->
    mg P (nm+8) l (([],[])::acc) (aZ t o.dst (.v undef)) h Q->False:=fun hg hw=>
   key Rec.skip (.inr (by obtain ⟨g,want,e,hh⟩:=hg;exact ⟨g,want,e,.inr ⟨rfl,hh⟩⟩)) hw
  simp only [mg] at hw
  split at hw
  ·rename_i hg
   obtain ⟨r,hk,hr⟩:=Nf hw
   exact key r (.inl ⟨hg,hr⟩) hk
  ·rename_i g want hg
   unfold qm at hw
   split at hw
   ·rename_i b hb
    have Nh:b=want->yD P nm o t h (fun r=>mg P (nm+8) l ((r.rd,r.upd.map Prod.fst)::acc) (aZ t o.dst r.val) (r.upd++h) Q)->False:=fun e hw'=>by
     subst e
     obtain ⟨r,hk,hr⟩:=Nf hw'
     exact key r (.inr ⟨g,b,hg,.inl ⟨hb,hr⟩⟩) hk
    cases b<;>cases want
    ·exact Nh rfl (hw.2 rfl)
    ·exact Ip ⟨g,true,hg,.inl hb⟩ (hw.2 rfl)
    ·exact Ip ⟨g,false,hg,.inl hb⟩ (hw.1 rfl)
    ·exact Nh rfl (hw.1 rfl)
   ·rename_i xs hb
    exact Ip ⟨g,want,hg,.inr ⟨xs,hb⟩⟩ hw
   ·exact hw.elim
end
theorem HR.ext {C:Ctx} {ρ:Nat->Loc} {U:Nat->Prop} {h h':List (Nat×Ob)} {w:World} (hr:HR C ρ U h w) (e:∀ b,get h' b=get h b):HR C ρ U h' w:=
 {hr with
  hp:=fun b o hb=>hr.hp b o (by rw [<-e];exact hb)
  hd:=fun b hb=>hr.hd b (by rw [<-e];exact hb)
  fix:=fun b l hb=>by
   obtain ⟨h1,h2,cs,h3⟩:=hr.fix b l hb
   exact ⟨h1,h2,cs,by rw [e];exact h3⟩}
theorem gQ.ext {C:Ctx} {ρ:Nat->Loc} {U:Nat->Prop} {t t':List (Nat×AV)} {h h':List (Nat×Ob)} {a:Act} {w:World} (hS:gQ C ρ U t h a w) (e1:∀ k,get t' k=get t k)
  (e2:∀ b,get h' b=get h b):gQ C ρ U t' h' a w:=
 ⟨hS.hr.ext e2,fun k x hk=>hS.tm k x (by rw [<-e1];exact hk),hS.defers,hS.sz⟩
section draw
variable {P:Program} {C:Ctx} {ops:Array Oper} {sl:List SOper} {rs:List Rec} {n:Nat} {t0:List (Nat×AV)} {h0:List (Nat×Ob)} {K:Exit->Act->World->Prop}
def Closed (sl:List SOper) (D:Nat->Bool):Prop:=∀ i o,D i=true->sl[i]? =some o->∀ e ∈ o.after,D e=true
def Inv (C:Ctx) (sl:List SOper) (rs:List Rec) (n:Nat) (t0:List (Nat×AV)) (h0:List (Nat×Ob)) (D:Nat->Bool) (a:Act) (w:World):Prop:=
 ∃ ρ U,gQ C ρ U (dM uT (sl.zip rs) D t0) (dM uH (sl.zip rs) D h0) a w/\(∀ b,U b->b<n\/∃ i,D i=true/\i<sl.length/\n+8*i<=b/\b<n+8*i+8)
theorem yS {x y:SOper×aR} (h:uz x y=true):
  (∀ d,x.1.dst=some d->d ∉ uses y.1/\y.1.dst≠some d)/\(∀ d,y.1.dst=some d->d ∉ uses x.1)/\
   (∀ b ∈ x.2.2,b ∉ y.2.1/\b ∉ y.2.2)/\(∀ b ∈ y.2.2,b ∉ x.2.1):=by
 simp only [uz,Bool.and_eq_true] at h
 obtain ⟨h1,h2,h3,h4,h5⟩:=h
 refine ⟨fun d hd=> ?_,fun d hd=> ?_,fun b hb=>⟨Im h3 hb,Im h4 hb⟩,fun b hb=>Im h5 hb⟩
 ·rw [hd] at h1
  simpa using h1
 ·rw [hd] at h2
  simpa using h2
structure afr (sl:List SOper) (rs:List Rec) (D:Nat->Bool) (j:Nat) (o:SOper) (r:Rec):Prop where
 tr:∀ k ∈ uses o,∀ i x,(sl.zip rs)[i]? =some x->k ∈ keys (uT x)->D i=decide (i<j)
 hr:∀ b ∈ r.rd,∀ i x,(sl.zip rs)[i]? =some x->b ∈ keys (uH x)->D i=decide (i<j)
 tw:∀ i y,j<i->D i=true->(sl.zip rs)[i]? =some y->∀ k ∈ keys (uT (o,r)),k ∉ keys (uT y)
 hw:∀ i y,j<i->D i=true->(sl.zip rs)[i]? =some y->∀ k ∈ keys (uH (o,r)),k ∉ keys (uH y)
theorem D7 {x:SOper×Rec} {k:Nat} (h:k ∈ keys (uT x)):x.1.dst=some k:=by
 unfold uT keys at h
 split at h
 ·rename_i d hd;simp at h;rw [hd,h]
 ·simp at h
theorem meets (hlen:rs.length=sl.length) (hok:iL sl (rs.map foot)=true) {D:Nat->Bool} (hD:Closed sl D) {j:Nat} {o:SOper} {r:Rec} (ho:sl[j]? =some o) (hr:rs[j]? =some r)
  (hj:D j=false) (hjr:∀ e ∈ o.after,D e=true):afr sl rs D j o r:=by
 simp only [iL,Bool.and_eq_true] at hok
 have cK:=Il sl 0 hok.1
 have hp:=Nc _ _ _ 0 hok.2
 have hbef:uI (sl.map (·.after)) (ja [] (sl.map (·.after))):=yR _ _ [] (by simp) (by simp) (fun j m h=>by simp at h)
 have hz:∀ (i:Nat) (x:SOper×Rec),(sl.zip rs)[i]? =some x->sl[i]? =some x.1/\rs[i]? =some x.2:=fun i x hx=>by
  rw [List.getElem?_zip_eq_some] at hx
  exact hx
 have D8:∀ (i:Nat) (x:SOper) (r':Rec),sl[i]? =some x->rs[i]? =some r'->(sl.zip (rs.map foot))[i]? =some (x,foot r'):=fun i x r' h1 h2=>by
  rw [List.getElem?_zip_eq_some]
  refine ⟨h1,?_⟩
  rw [List.getElem?_map,h2];rfl
 have uJ:∀ (i:Nat) (af:List Nat),D i=true->(sl.map (·.after))[i]? =some af->∀ e ∈ af,D e=true:=fun i af hi cK=>by
  rw [List.getElem?_map] at cK
  cases hs:sl[i]? with
  |none=>rw [hs] at cK;simp at cK
  |some x=>rw [hs] at cK;simp at cK;subst cK;exact hD i x hi hs
 have hbit:∀ (i i':Nat) (x:SOper),sl[i]? =some x->(∀ e ∈ x.after,D e=true)->((ja [] (sl.map (·.after))).getD i 0).testBit i'=true->D i'=true:=fun i i' x hx hxe hb=>by
  rcases Nat.lt_or_ge i (ja [] (sl.map (·.after))).length with h1|h1
  ·refine hbef i _ (by rw [List.getD_eq_getElem?_getD,List.getElem?_eq_getElem h1];rfl) D uJ (fun af cK=> ?_) i' hb
   rw [List.getElem?_map,hx] at cK
   simp at cK
   subst cK
   exact hxe
  ·rw [List.getD_eq_getElem?_getD,List.getElem?_eq_none h1] at hb
   simp at hb
 have hlo:∀ i x,i<j->(sl.zip rs)[i]? =some x->D i=true\/uz (x.1,foot x.2) (o,foot r)=true:=fun i x hi hx=>by
  obtain ⟨h1,h2⟩:=hz i x hx
  rcases hp j _ (D8 j o r ho hr) i _ (by omega) (D8 i x.1 x.2 h1 h2) with h|h
  ·rw [Nat.zero_add] at h
   exact .inl (hbit j i o ho hjr h)
  ·exact .inr h
 have hhi:∀ i x,j<i->D i=true->(sl.zip rs)[i]? =some x->uz (o,foot r) (x.1,foot x.2)=true:=fun i x hi hd hx=>by
  obtain ⟨h1,h2⟩:=hz i x hx
  rcases hp i _ (D8 i x.1 x.2 h1 h2) j _ (by omega) (D8 j o r ho hr) with h|h
  ·rw [Nat.zero_add] at h
   have:=hbit i j x.1 h1 (hD i x.1 hd h1) h
   rw [hj] at this;cases this
  ·exact h
 have hcase:∀ i x,(sl.zip rs)[i]? =some x->(i<j->uz (x.1,foot x.2) (o,foot r)=true->False)->(j<i->uz (o,foot r) (x.1,foot x.2)=true->False)->D i=decide (i<j):=fun i x hx h1 h2=>by
  rcases Nat.lt_trichotomy i j with hi|rfl|hi
  ·rw [decide_eq_true hi]
   exact (hlo i x hi hx).resolve_right (h1 hi)
  ·rw [decide_eq_false (by omega)];exact hj
  ·rw [decide_eq_false (by omega)]
   cases hd:D i with
   |false=>rfl
   |true=>exact (h2 hi (hhi i x hi hd hx)).elim
 refine ⟨fun k hk i x hx hm=>hcase i x hx (fun _ hc=> ?_) (fun _ hc=> ?_),fun b hb i x hx hm=>hcase i x hx (fun _ hc=> ?_) (fun _ hc=> ?_),fun i y hi hd hy k hk hk'=> ?_,fun i y hi hd hy k hk hk'=> ?_⟩
 ·exact ((yS hc).1 k (D7 hm)).1 hk
 ·exact (yS hc).2.1 k (D7 hm) hk
 ·exact ((yS hc).2.2.1 b hm).1 hb
 ·exact (yS hc).2.2.2 b hm hb
 ·exact ((yS (hhi i y hi hd hy)).1 k (D7 hk)).2 (D7 hk')
 ·exact ((yS (hhi i y hi hd hy)).2.2.1 k hk).2 hk'
theorem yT {draw:Bool}:∀ (l:List Oper) (sl:List SOper),stripOps P ops draw l=some sl->l.length=sl.length/\∀ (j:Nat) (o:Oper),l[j]? =some o->∃ so,sl[j]? =some so/\stripOper P ops draw o=some so
 |[],sl,hs=>by
  simp only [stripOps,Option.some.injEq] at hs
  subst hs
  exact ⟨rfl,fun j o h=>by simp at h⟩
 |o::l,sl,hs=>by
  obtain ⟨so,sl',rfl,h1,h2⟩:=yO hs
  obtain ⟨h3,h4⟩:=yT l sl' h2
  refine ⟨by simp [h3],fun j o' h=> ?_⟩
  cases j with
  |zero=>simp at h;subst h;exact ⟨so,rfl,h1⟩
  |succ j=>simpa using h4 j o' (by simpa using h)
theorem Iq {o:Oper} {so:SOper} (hs:stripOper P ops true o=some so):
  so.after=o.after.toList.filterMap fun e=>match e.ground with| .textOnly _=>none| .gcOnly _=>none|_=>some e.on:=by
 unfold stripOper at hs
 split at hs
 ·split at hs
  ·cases hs;rfl
  ·split at hs
   ·cases hs;rfl
   ·cases hs
 ·cases hs
theorem Bn {o:Oper} {so:SOper} (hs:stripOper P ops true o=some so) (D:Nat->Prop):
  (∀ e ∈ o.after,Region.binds .any e=true->D e.on)↔∀ i ∈ so.after,D i:=by
 rw [Iq hs]
 constructor
 ·intro h i hi
  rw [List.mem_filterMap] at hi
  obtain ⟨e,he,h1⟩:=hi
  have hem:e ∈ o.after:=by simpa using he
  have:Region.binds .any e=true/\e.on=i:=by
   unfold Region.binds
   split at h1<;>simp_all
  rw [<-this.2];exact h e hem this.1
 ·intro h e he hb
  refine h e.on ?_
  rw [List.mem_filterMap]
  refine ⟨e,by simpa using he,?_⟩
  unfold Region.binds at hb
  split at hb<;>simp_all
theorem Ni:∀ (sl:List SOper) {nt:Nat},sJ nt sl=true->∀ (j:Nat) (o:SOper),sl[j]? =some o->∀ d,o.dst=some d->d<nt
 |[],_,_,j,o,h=>by simp at h
 |o::l,nt,h,j,o',h'=>by
  simp only [sJ,Bool.and_eq_true] at h
  cases j with
  |zero=>
   simp at h';subst h'
   intro d hd
   have:=h.1
   rw [hd] at this
   simpa using this
  |succ j=>exact Ni l h.2 j o' (by simpa using h')
theorem Ir (hs:stripOps P ops true ops.toList=some sl) (hdst:sJ C.nt sl=true) (hlen:rs.length=sl.length) (hok:iL sl (rs.map foot)=true)
  (hst:∀ j o r,sl[j]? =some o->rs[j]? =some r->D6 P (n+8*j) o (dM uT (sl.zip rs) (fun i=>decide (i<j)) t0) (dM uH (sl.zip rs) (fun i=>decide (i<j)) h0) r)
  {D:Nat->Bool} (hD:Closed sl D) {j:Nat} {o:Oper} {so:SOper} (ho:ops[j]? =some o) (hso:sl[j]? =some so) (hs1:stripOper P ops true o=some so) (hj:D j=false) (hjr:∀ e ∈ so.after,D e=true)
  {a:Act} {w:World} (hI:Inv C sl rs n t0 h0 D a w) {next:Act->World->Prop} (hn:∀ a w,Inv C sl rs n t0 h0 (iO D j) a w->next a w):
  wpOp P ops K j next a w:=by
 obtain ⟨r,hr⟩:∃ r,rs[j]? =some r:=by
  have:j<rs.length:=by rw [hlen];exact (List.getElem?_eq_some_iff.1 hso).1
  exact ⟨_,List.getElem?_eq_getElem this⟩
 have hz:(sl.zip rs)[j]? =some (so,r):=by rw [List.getElem?_zip_eq_some];exact ⟨hso,hr⟩
 have hm:=meets hlen hok hD hso hr hj hjr
 obtain ⟨h1,h2,h3,h4⟩:=sK hs1
 obtain ⟨ρ,U,hS,hU⟩:=hI
 have hrt:∀ k ∈ uses so,get (dM uT (sl.zip rs) D t0) k=get (dM uT (sl.zip rs) (fun i=>decide (i<j)) t0) k:=fun k hk=>
  wN _ _ _ _ _ k rfl fun i x hx hm'=>hm.tr k hk i x hx hm'
 have hrh:∀ b ∈ r.rd,get (dM uH (sl.zip rs) D h0) b=get (dM uH (sl.zip rs) (fun i=>decide (i<j)) h0) b:=fun b hb=>
  wN _ _ _ _ _ b rfl fun i x hx hm'=>hm.hr b hb i x hx hm'
 have hdj:∀ d,o.dst=some d->d<C.nt:=fun d hd=>Ni sl hdst j so hso d (by rw [h2];exact hd)
 have hend:∀ a' w' ρ' U',gQ C ρ' U' (aZ (dM uT (sl.zip rs) D t0) so.dst r.val) (r.upd++dM uH (sl.zip rs) D h0) a' w'->(∀ b,U' b->U b\/(n+8*j<=b/\b<n+8*j+8))->next a' w':=
  fun a' w' ρ' U' hS' iN=>hn a' w' ⟨ρ',U',hS'.ext (fun k=>by rw [Io];exact Nb hz hj hm.tw k) (fun b=>Nb hz hj hm.hw b),fun b hb=>by
   rcases iN b hb with h|h
   ·rcases hU b h with h|⟨i,hi,h⟩
    ·exact .inl h
    ·exact .inr ⟨i,by simp [iO,hi],h⟩
   ·exact .inr ⟨j,by simp [iO],(List.getElem?_eq_some_iff.1 hso).1,h⟩⟩
 have hfr:∀ b,U b->¬ (n+8*j<=b/\b<n+8*j+8):=fun b hb hh=>by
  rcases hU b hb with h|⟨i,hi,h⟩
  ·omega
  ·have:i=j:=by omega
   subst this
   rw [hj] at hi;cases hi
 have hact:D5 P (n+8*j) so (dM uT (sl.zip rs) (fun i=>decide (i<j)) t0) (dM uH (sl.zip rs) (fun i=>decide (i<j)) h0) r->
   (∀ k ∈ sF (sD so.op),k ∈ uses so)->o.wp P a w next K:=fun hA hu=>by
  have:=hA _ _ (fun k hk=>hrt k (hu k hk)) hrh (fun t' h'=>t'=aZ (dM uT (sl.zip rs) D t0) so.dst r.val/\h'=r.upd++dM uH (sl.zip rs) D h0) ⟨rfl,rfl⟩
  obtain ⟨dst,op,gd,af⟩:=so
  simp only at h1 h2
  subst h2
  refine MZ h1 hS hfr hdj this fun t' h' a' w' ρ' U' hS' iN hQ=> ?_
  obtain ⟨rfl,rfl⟩:=hQ
  exact hend a' w' ρ' U' hS' iN
 have yP:r=Rec.skip->next (a.put o.dst undef) w:=fun e=>by
  refine hend _ _ ρ U ?_ fun b hb=> .inl hb
  subst e
  have:=hS.skip (dst:=o.dst) hdj
  rw [h2]
  exact this
 unfold wpOp
 rw [ho]
 simp only
 rcases hst j so r hso hr with ⟨hg,hA⟩|⟨g,want,hg,hh⟩
 ·have hg':=h3.1 hg
  have:Region.wanted o (yielded ops a.tmps)=true:=by simp [Region.wanted,hg']
  rw [if_pos this]
  exact .inl (hact hA (fun k hk=>by unfold uses;rw [hg];exact hk))
 ·obtain ⟨j',hj',hjd⟩:=h4 g want hg
  have hgu:g ∈ uses so:=by unfold uses;rw [hg];exact List.mem_cons_self ..
  have hgt:=hrt g hgu
  rcases hh with ⟨hb,hA⟩|⟨e,hb|⟨xs,hb⟩⟩
  ·rw [hb] at hgt
   obtain ⟨u,hu,hv⟩:=hS.tm g _ hgt
   have:=hv.bA
   subst this
   rw [uG hj' hjd hu]
   simp only [beq_self_eq_true,if_true]
   exact .inl (hact hA (fun k hk=>by unfold uses;rw [hg];exact List.mem_cons_of_mem _ hk))
  ·rw [hb] at hgt
   obtain ⟨u,hu,hv⟩:=hS.tm g _ hgt
   have:=hv.bA
   subst this
   rw [uG hj' hjd hu]
   have:((!want)==want)=false:=by cases want<;>rfl
   rw [this]
   exact yP e
  ·rw [hb] at hgt
   obtain ⟨u,hu,hv⟩:=hS.tm g _ hgt
   have:=hv.bA
   subst this
   rw [M4 hj' hjd hu]
   exact yP e
theorem Bp {D:Nat->Bool} {j:Nat}:∀ (l:List Nat),j ∉ l->l.countP (fun i=> !(iO D j i))=l.countP (fun i=> !(D i))
 |[],_=>rfl
 |x::l,h=>by
  simp only [List.mem_cons,not_or] at h
  have e:iO D j x=D x:=by simp [iO,Ne.symm h.1]
  rw [List.countP_cons,List.countP_cons,Bp l h.2,e]
theorem Bq {D:Nat->Bool} {j:Nat} (hj:D j=false):∀ (l:List Nat),l.Nodup->j ∈ l->l.countP (fun i=> !(iO D j i))+1=l.countP (fun i=> !(D i))
 |[],_,h=>by simp at h
 |x::l,hn,h=>by
  rw [List.nodup_cons] at hn
  rcases List.mem_cons.1 h with rfl|h
  ·rw [List.countP_cons,List.countP_cons,Bp l hn.1]
   simp [iO,hj]
  ·have hx:x≠j:=fun e=>hn.1 (e▸h)
   have e:iO D j x=D x:=by simp [iO,hx]
   have:=Bq hj l hn.2 h
   rw [List.countP_cons,List.countP_cons,e]
   omega
def dm (listed:Array Bool):Nat->Bool:=fun i=>listed.getD i false
theorem Iu {listed:Array Bool} {j:Nat} (hj:j<listed.size):dm (listed.setIfInBounds j true)=iO (dm listed) j:=by
 funext i
 unfold dm iO
 by_cases e:i=j
 ·subst e;simp [hj]
 ·rw [getD_set_ne false (Ne.symm e)]
  have:(i==j)=false:=by simp [e]
  rw [this,Bool.or_false]
theorem wP {listed:Array Bool} {j:Nat} (hj:j<listed.size):listed.getD j true=listed.getD j false:=by
 simp [hj]
theorem Iw (hs:stripOps P ops true ops.toList=some sl) (hdst:sJ C.nt sl=true) (hlen:rs.length=sl.length) (hok:iL sl (rs.map foot)=true)
  (hst:∀ j o r,sl[j]? =some o->rs[j]? =some r->D6 P (n+8*j) o (dM uT (sl.zip rs) (fun i=>decide (i<j)) t0) (dM uH (sl.zip rs) (fun i=>decide (i<j)) h0) r)
  (hend:∀ D a w,(∀ i,i<ops.size->D i=true)->Inv C sl rs n t0 h0 D a w->K .normal a w):
  ∀ (fuel:Nat) (listed:Array Bool) (a:Act) (w:World),listed.size=ops.size->Closed sl (dm listed)->(List.range ops.size).countP (fun i=> !(dm listed i))<=fuel->
   Inv C sl rs n t0 h0 (dm listed) a w->wpAny P .any ops K fuel listed a w:=by
 obtain ⟨hl,hget⟩:=yT ops.toList sl hs
 have Iy:yE 0 sl=true:=by
  simp only [iL,Bool.and_eq_true] at hok
  exact hok.1
 have Iz:∀ (listed:Array Bool) (j:Nat) (o:Oper) (so:SOper),listed.size=ops.size->ops[j]? =some o->sl[j]? =some so->stripOper P ops true o=some so->dm listed j=false->
   (∀ e ∈ so.after,dm listed e=true)->j ∈ Region.ready .any ops listed:=fun listed j o so hsz ho hso h1 hj he=>by
  have hlt:j<ops.size:=(Array.getElem?_eq_some_iff.1 ho).1
  rw [mem_ready]
  refine ⟨by rw [wP (by omega)];exact hj,o,ho,?_⟩
  exact (Bn h1 fun i=>dm listed i=true).2 he
 have hall:∀ (listed:Array Bool),listed.size=ops.size->Region.ready .any ops listed=[]->∀ i,i<ops.size->dm listed i=true:=fun listed hsz hr i=>by
  induction i using Nat.strongRecOn with
  |_ i ih=>
   intro hi
   apply Classical.byContradiction
   intro hne
   have hne':dm listed i=false:=by simpa using hne
   obtain ⟨so,hso,h1⟩:=hget i ops[i] (by simp [hi])
   have:=Iz listed i ops[i] so hsz (by simp [hi]) hso h1 hne' fun e he=>by
    have:=Il sl 0 Iy i so hso e he
    exact ih e (by omega) (by omega)
   rw [hr] at this
   simp at this
 intro fuel
 induction fuel with
 |zero=>
  intro listed a w hsz hc hf hI
  have hdone:∀ i,i<ops.size->dm listed i=true:=fun i hi=>by
   have h0:(List.range ops.size).countP (fun i=> !(dm listed i))=0:=by omega
   rw [List.countP_eq_zero] at h0
   have:=h0 i (by simpa using hi)
   simpa using this
  refine ⟨?_,hend _ a w hdone hI⟩
  apply List.eq_nil_iff_forall_not_mem.2
  intro j hj
  rw [mem_ready] at hj
  obtain ⟨h1,o,ho,_⟩:=hj
  have hlt:j<ops.size:=(Array.getElem?_eq_some_iff.1 ho).1
  rw [wP (by omega)] at h1
  have:=hdone j hlt
  unfold dm at this
  rw [h1] at this;cases this
 |succ fuel ih=>
  intro listed a w hsz hc hf hI
  refine ⟨fun hr=>hend _ a w (hall listed hsz hr) hI,fun j hj=> ?_⟩
  rw [mem_ready] at hj
  obtain ⟨h1,o,ho,hb⟩:=hj
  have hlt:j<ops.size:=(Array.getElem?_eq_some_iff.1 ho).1
  obtain ⟨so,hso,hs1⟩:=hget j o (by simpa using ho)
  have hjr:=(Bn hs1 fun i=>dm listed i=true).1 hb
  have hj0:dm listed j=false:=by rw [wP (by omega)] at h1;exact h1
  refine Ir hs hdst hlen hok hst hc ho hso hs1 hj0 hjr hI fun a' w' hI'=> ?_
  have e:=Iu (listed:=listed) (j:=j) (by omega)
  refine ih _ a' w' (by simp [hsz]) ?_ ?_ (by rw [e];exact hI')
  ·rw [e]
   intro i o' hi ho' x hx
   unfold iO at hi
   simp only [Bool.or_eq_true,beq_iff_eq] at hi
   rcases hi with hi|rfl
   ·simp [iO,hc i o' hi ho' x hx]
   ·rw [hso] at ho';cases ho'
    simp [iO,hjr x hx]
  ·rw [e]
   have:=Bq hj0 (List.range ops.size) List.nodup_range (by simpa using hlt)
   omega
theorem gQ.world {ρ:Nat->Loc} {U:Nat->Prop} {t:List (Nat×AV)} {h:List (Nat×Ob)} {a:Act} {w w':World} (hS:gQ C ρ U t h a w) (e1:w'.heap=w.heap) (e2:w'.os=w.os)
  (e3:w'.tape=w.tape) (e4:w'.output=w.output):gQ C ρ U t h a w':=by
 obtain ⟨h1,h2⟩:=hS.hr.world e1 e2 e3 e4
 refine ⟨h1,fun k x hk=> ?_,hS.defers,hS.sz⟩
 obtain ⟨u,hu,hv⟩:=hS.tm k x hk
 exact ⟨u,hu,h2 _ _ hv⟩
theorem aft (hm:P.follows .mixedOrders=true) (hs:stripOps P ops true ops.toList=some sl) (hdst:sJ C.nt sl=true) {ρ:Nat->Loc} {U:Nat->Prop} {a:Act} {w:World}
  (hS:gQ C ρ U t0 h0 a w) (hU:∀ b,U b->b<n) {Q:List (Nat×AV)->List (Nat×Ob)->Prop} (hw:GX P n sl t0 h0 Q) {id:Nat}
  (hend:∀ t h a' w' ρ' U',gQ C ρ' U' t h a' w'->(∀ b,U' b->b<n+8*sl.length)->Q t h->K .normal a' w'):(Code.region id ops true).wp P K a w:=by
 obtain ⟨rs,hlen,⟨hok,hQ⟩,hst⟩:=Ng sl n [] t0 h0 _ hw
 simp only [List.append_nil,List.reverse_reverse] at hok
 have hl:=(yT ops.toList sl hs).1
 simp only [Array.length_toList] at hl
 have hD0:dm (Array.replicate ops.size false)=fun _=>false:=by
  funext i
  unfold dm
  rcases Nat.lt_or_ge i ops.size with h|h<;>simp [h]
 refine wp_region_any hm (Iw (n:=n) (t0:=t0) (h0:=h0) hs hdst hlen hok hst ?_ ops.size _ a _ (by simp) ?_ ?_ ?_)
 ·intro D a' w' hD hI
  obtain ⟨ρ',U',hS',iN⟩:=hI
  have hz:∀ i (x:SOper×Rec),(sl.zip rs)[i]? =some x->D i=true:=fun i x hx=>hD i (by
   rw [List.getElem?_zip_eq_some] at hx
   have:=(List.getElem?_eq_some_iff.1 hx.1).1
   omega)
  refine hend _ _ a' w' ρ' U' (hS'.ext (fun k=> ?_) (fun b=> ?_)) (fun b hb=> ?_) hQ
  ·exact wN _ _ _ _ _ k rfl fun i x hx _=>(hz i x hx).symm
  ·exact wN _ _ _ _ _ b rfl fun i x hx _=>(hz i x hx).symm
  ·rcases iN b hb with h|⟨i,hi,h⟩
   ·omega
   ·omega
 ·rw [hD0];intro i o hi;cases hi
 ·exact Nat.le_trans List.countP_le_length (by simp)
 ·rw [hD0]
  exact ⟨ρ,U,by rw [Bh,Bh];exact hS.world rfl rfl rfl rfl,fun b hb=> .inl (hU b hb)⟩
end draw
end Go.Eng
namespace Go.Eng
open Go
theorem least {p:Nat->Prop} (h:∃ n,p n):∃ n,p n/\∀ m,p m->n<=m:=by
 apply Classical.byContradiction
 intro hno
 have:∀ n,¬ p n:=fun n=>by
  induction n using Nat.strongRecOn with
  |_ n ih=>
   intro hp
   refine hno ⟨n,hp,fun m hm=> ?_⟩
   rcases Nat.lt_or_ge m n with h1|h1
   ·exact absurd hm (ih m h1)
   ·exact h1
 obtain ⟨n,hn⟩:=h
 exact this n hn
section
variable {P:Program} {C:Ctx}
def At (C:Ctx) (s:St) (a:Act) (w:World):Prop:=∃ ρ U,gQ C ρ U s.t s.h a w/\∀ b,U b->b<s.n
theorem Wk.at {s s':St} (h:Wk s s') {a:Act} {w:World} (hs:At C s a w):At C s' a w:=by
 obtain ⟨ρ,U,hS,hU⟩:=hs
 obtain ⟨ρ',U',hR,iN⟩:=h C ρ U a w ⟨hS.hr,hS.defers,hS.sz,hS.tm⟩ hU
 exact ⟨ρ',U',⟨hR.hr,hR.tm,hR.defers,hR.sz⟩,iN⟩
noncomputable def Br {α:Type} (C:Ctx) (S:α->St) (μ:α->Nat) (a:Act) (w:World):Nat:=by
 classical
 exact if h:∃ n,∃ x,μ x=n/\At C (S x) a w then Classical.choose (least h) else 0
theorem Nj {α:Type} {S:α->St} {μ:α->Nat} {a:Act} {w:World} {x:α} (h:At C (S x) a w):
  Br C S μ a w<=μ x/\∃ y,μ y=Br C S μ a w/\At C (S y) a w:=by
 have hx:∃ n,∃ x,μ x=n/\At C (S x) a w:=⟨_,x,rfl,h⟩
 have e:Br C S μ a w=Classical.choose (least hx):=by
  unfold Br
  rw [dif_pos hx]
 obtain ⟨h1,h2⟩:=Classical.choose_spec (least hx)
 rw [e]
 exact ⟨h2 _ ⟨x,rfl,h⟩,h1⟩
theorem Nk (hm:P.follows .mixedOrders=true) (c:Code):∀ (sc:SCode),stripCode P c=some sc->lD C.nt sc=true->
  ∀ (Q:Exit->St->Prop) (K:Exit->Act->World->Prop) (s:St) (a:Act) (w:World),At C s a w->lu P sc Q s->
   (∀ e s' a' w',At C s' a' w'->Q e s'->K e a' w')->c.wp P K a w:=by
 induction c with
 |skip=>
  intro sc hs _ Q K s a w hA hw hK
  cases hs
  exact wp_skip (hK _ _ _ _ hA hw)
 |region id ops draw=>
  intro sc hs hok Q K s a w hA hw hK
  simp only [stripCode] at hs
  split at hs
  ·rename_i l hl
   cases hs
   simp only [lD] at hok
   obtain ⟨ρ,U,hS,hU⟩:=hA
   simp only [lu] at hw
   cases draw with
   |true=>
    simp only [if_true] at hw
    exact aft hm hl hok hS hU hw fun t h a' w' ρ' U' hS' iN hQ=>hK _ ⟨_,t,h⟩ a' w' ⟨ρ',U',hS',iN⟩ hQ
   |false=>
    simp only [Bool.false_eq_true,if_false] at hw
    exact wp_region_list (afo ops.toList l s.n s.t s.h a w ρ U hl hok hS hU hw fun t h a' w' ρ' U' hS' iN hQ=>hK _ ⟨_,t,h⟩ a' w' ⟨ρ',U',hS',iN⟩ hQ)
  ·cases hs
 |seq x y sM ihy=>
  intro sc hs hok Q K s a w hA hw hK
  simp only [stripCode] at hs
  split at hs
  ·rename_i x' hx
   split at hs
   ·rename_i y' hy
    cases hs
    simp only [lD,Bool.and_eq_true] at hok
    refine wp_seq (sM x' hx hok.1 _ _ s a w hA hw fun e s' a' w' hA' hQ=> ?_)
    cases e with
    |normal=>exact ihy y' hy hok.2 Q K s' a' w' hA' hQ hK
    |exit i=>exact hK _ _ _ _ hA' hQ
    |goto l=>exact hK _ _ _ _ hA' hQ
    |ret=>exact hK _ _ _ _ hA' hQ
    |panic ch=>exact hK _ _ _ _ hA' hQ
    |outgrown=>exact hK _ _ _ _ hA' hQ
   ·cases hs
  ·cases hs
 |cond c x y sM ihy=>
  intro sc hs hok Q K s a w hA hw hK
  simp only [stripCode] at hs
  split at hs
  ·rename_i x' hx
   split at hs
   ·rename_i y' hy
    cases hs
    simp only [lD,Bool.and_eq_true] at hok
    simp only [lu] at hw
    unfold qm at hw
    split at hw
    ·rename_i b hb
     have wQ:=hA
     obtain ⟨ρ,U,hS,hU⟩:=hA
     have hc:=(aL hS.tm hb).bA
     exact wp_cond_split hc (fun hb=>sM x' hx hok.1 Q K s a w wQ (hw.1 hb) hK) (fun hb=>ihy y' hy hok.2 Q K s a w wQ (hw.2 hb) hK)
    ·exact hw.elim
    ·exact hw.elim
   ·cases hs
  ·cases hs
 |block id c ih=>
  intro sc hs hok Q K s a w hA hw hK
  simp only [stripCode] at hs
  split at hs
  ·rename_i c' hc
   cases hs
   simp only [lD] at hok
   refine wp_block (ih c' hc hok _ _ s a w hA hw fun e s' a' w' hA' hQ=> ?_)
   cases e with
   |exit i=>
    simp only [GZ] at hQ
    simp only [Exit.inBlock]
    split
    ·rename_i h;rw [if_pos h] at hQ;exact hK _ _ _ _ hA' hQ
    ·rename_i h;rw [if_neg h] at hQ;exact hK _ _ _ _ hA' hQ
   |normal=>exact hK _ _ _ _ hA' hQ
   |goto l=>exact hK _ _ _ _ hA' hQ
   |ret=>exact hK _ _ _ _ hA' hQ
   |panic ch=>exact hK _ _ _ _ hA' hQ
   |outgrown=>exact hK _ _ _ _ hA' hQ
  ·cases hs
 |loop c ih=>
  intro sc hs hok Q K s a w hA hw hK
  simp only [stripCode] at hs
  split at hs
  ·rename_i c' hc
   cases hs
   simp only [lD] at hok
   obtain ⟨α,S,μ,a0,hW,hb⟩:=hw
   refine wp_loop (fun a w=>∃ x,At C (S x) a w) (Br C S μ) ⟨a0,hW.at hA⟩ fun a w hI=> ?_
   obtain ⟨x0,hx0⟩:=hI
   obtain ⟨_,x,hx,hA'⟩:=Nj (μ:=μ) hx0
   refine ih c' hc hok _ _ (S x) a w hA' (hb x) fun e s' a' w' yU hQ=> ?_
   cases e with
   |normal=>
    obtain ⟨x',hlt,hW'⟩:=hQ
    have h1:=hW'.at yU
    refine ⟨⟨x',h1⟩,?_⟩
    have:=(Nj (μ:=μ) h1).1
    omega
   |exit i=>exact hK _ _ _ _ yU hQ
   |goto l=>exact hK _ _ _ _ yU hQ
   |ret=>exact hK _ _ _ _ yU hQ
   |panic ch=>exact hK _ _ _ _ yU hQ
   |outgrown=>exact hK _ _ _ _ yU hQ
  ·cases hs
 |exit id=>
  intro sc hs _ Q K s a w hA hw hK
  cases hs
  exact wp_exit (hK _ _ _ _ hA hw)
 |ret=>
  intro sc hs _ Q K s a w hA hw hK
  cases hs
  exact wp_ret (hK _ _ _ _ hA hw)
 |_=>intro sc hs;simp [stripCode] at hs
end
end Go.Eng
namespace Go.Eng
open Go
def mh (sz:Nat):Nat->List AV->List (List AV)
 |0,_=>[]
 |n+1,l=>l.take sz::mh sz n (l.drop sz)
theorem Nn {sz:Nat}:∀ (n:Nat) (l:List AV),l.length=n*sz->(mh sz n l).length=n/\∀ (k:Nat) e,(mh sz n l)[k]? =some e->e.length=sz/\∀ (j:Nat) c,e[j]? =some c->l[k*sz+j]? =some c
 |0,l,_=>⟨rfl,fun k e hk=>by simp [mh] at hk⟩
 |n+1,l,hl=>by
  have hm:(n+1)*sz=n*sz+sz:=Nat.succ_mul n sz
  obtain ⟨c1,c2⟩:=Nn (sz:=sz) n (l.drop sz) (by rw [List.length_drop];omega)
  refine ⟨by simp [mh,c1],fun k e hk=> ?_⟩
  cases k with
  |zero=>
   simp [mh] at hk
   subst hk
   refine ⟨by rw [List.length_take];omega,fun j c hj=> ?_⟩
   rw [List.getElem?_take] at hj
   split at hj
   ·rw [Nat.zero_mul,Nat.zero_add];exact hj
   ·cases hj
  |succ k=>
   simp only [mh,List.getElem?_cons_succ] at hk
   obtain ⟨g1,g2⟩:=c2 k e hk
   refine ⟨g1,fun j c hj=> ?_⟩
   have:=g2 j c hj
   rw [List.getElem?_drop] at this
   rw [Nat.succ_mul,show k*sz+sz+j=sz+(k*sz+j) by omega]
   exact this
section
variable (h:List (Nat×Ob)) (S:List (Nat×Nat)) (N:List Nat)
mutual
def rv:AV->AV->Prop
 | .own k sz off len,y=>match y with
  | .own b sz' off' len'=>get S k=some b/\sz=sz'/\off=off'/\len=len'
  | .v (.slice none 0 0)=>k ∈ N/\get S k=none/\len=0
  |_=>False
 | .ptr k j,y=>match y with
  | .ptr b j'=>get S k=some b/\j=j'
  |_=>False
 | .rp k sz i j,y=>match y with
  | .rp b sz' i' j'=>get S k=some b/\sz=sz'/\i=i'/\j=j'
  |_=>False
 | .mp k,y=>match y with
  | .mp b=>get S k=some b
  |_=>False
 | .sl sz ys,y=>match y with
  | .sl sz' xs=>sz=sz'/\ys=xs
  | .v (.slice none 0 0)=>ys=[]
  | .own b sz' off len=>b ∉ S.map Prod.snd/\sz=sz'/\match get h b with
   |some (.row _ eB xs)=>sz=eB/\off+len<=xs.length/\ys=(xs.drop off).take len
   |some (.box cs)=>4<=b/\off=0/\cs.length=len*sz/\fB cs=true/\qj cs=true/\ys=mh sz len cs
   |_=>False
  |_=>False
 | .bW cs j,y=>match y with
  | .bW cs' j'=>cs=cs'/\j=j'
  | .rp b sz' i j'=>b ∉ S.map Prod.snd/\j=j'/\match get h b with
   |some (.row _ eB xs)=>sz'=eB/\i<xs.length/\cs=nth xs i
   |_=>False
  |_=>False
 | .agg ys,y=>match y with
  | .agg xs=>aN ys xs
  |_=>False
 | .aT ys,y=>match y with
  | .aT xs=>aN ys xs
  |_=>False
 | .fn f ys,y=>match y with
  | .fn g xs=>f=g/\aN ys xs
  |_=>False
 | .v a,y=>y= .v a
def aN:List AV->List AV->Prop
 |[],[]=>True
 |y::ys,x::xs=>rv y x/\aN ys xs
 |_,_=>False
end
def qw:List (Value×AV)->List (Value×AV)->Prop
 |[],[]=>True
 |(k,y)::l,(k',x)::l'=>k=k'/\rv h S N y x/\qw l l'
 |_,_=>False
def cO:Ob->Ob->Prop
 | .box ys,.box xs=>aN h S N ys xs
 | .row e sz ys,.row e' sz' xs=>e=e'/\sz=sz'/\ys=xs
 | .map ys,.map xs=>qw h S N ys xs
 |_,_=>False
def gX (h':List (Nat×Ob)):List (Nat×Nat)->Prop
 |[]=>True
 |(k,b)::l=>(match get h' k,get h b with
  |some y,some x=>cO h S N y x
  |_,_=>False)/\gX h' l
def qx (h':List (Nat×Ob)):List Nat->Prop
 |[]=>True
 |k::l=>(match get h' k with
  |some (.row _ _ xs)=>xs=[]
  |_=>False)/\qx h' l
def uK (t:List (Nat×AV)):List (Nat×AV)->Prop
 |[]=>True
 |(k,y)::l=>(match get t k with
  |some x=>rv h S N y x
  |none=>False)/\uK t l
def wR (b:Nat):Bool:=match get h b with
 |some (.box _)=>get S b==some b
 |_=>true
def sN (h':List (Nat×Ob)):Bool:=
 decide ((S.map Prod.snd).Nodup)&&(N.all (fun k=> !(S.map Prod.fst).contains k)&&((h'.map Prod.fst).all (fun k=>(S.map Prod.fst).contains k||N.contains k)&&
  (wR h S 0&&(wR h S 1&&(wR h S 2&&wR h S 3)))))
end
theorem get_mem {α:Type} {l:List (Nat×α)} {k:Nat} {x:α} (h:get l k=some x):(k,x) ∈ l:=by
 induction l with
 |nil=>simp [get] at h
 |cons p l ih=>
  obtain ⟨a,b⟩:=p
  simp only [get] at h
  split at h
  ·rename_i e;cases h;subst e;exact List.mem_cons_self ..
  ·exact List.mem_cons_of_mem _ (ih h)
theorem IA {α:Type} {l:List (Nat×α)} {k:Nat} (h:k ∈ l.map Prod.fst):∃ x,get l k=some x:=by
 induction l with
 |nil=>simp at h
 |cons p l ih=>
  obtain ⟨a,b⟩:=p
  simp only [List.map_cons,List.mem_cons] at h
  simp only [get]
  by_cases e:a=k
  ·exact ⟨b,by rw [if_pos e]⟩
  ·rw [if_neg e];exact ih (h.resolve_left fun h=>e h.symm)
section
variable {C:Ctx} {ρ:Nat->Loc} {U:Nat->Prop} {h h':List (Nat×Ob)} {S:List (Nat×Nat)} {N:List Nat} {w:World}
def bY (ρ:Nat->Loc) (S:List (Nat×Nat)) (N:List Nat) (k:Nat):Loc:=match get S k with
 |some b=>ρ b
 |none=>if k ∈ N then .nil else .dead
def nQ (S:List (Nat×Nat)) (N:List Nat) (k:Nat):Prop:=k ∈ S.map Prod.fst\/k ∈ N
theorem Bt {k b:Nat} (h:get S k=some b):nQ S N k:= .inl (List.mem_map.2 ⟨_,get_mem h,rfl⟩)
theorem wS {k b:Nat} (h:get S k=some b):bY ρ S N k=ρ b:=by simp [bY,h]
theorem D9 {g:Nat} (ho:iI (bY ρ S N) g):iI ρ g/\∃ k b o n,get S k=some b/\ρ b= .at g o n:=by
 obtain ⟨k,o,n,hk⟩:=ho
 unfold bY at hk
 split at hk
 ·rename_i b hb
  exact ⟨⟨b,o,n,hk⟩,k,b,o,n,hb,hk⟩
 ·split at hk<;>cases hk
theorem Bu {g:Nat} (hg:ay C ρ w g):ay C (bY ρ S N) w g:=⟨hg.1,hg.2.1,fun ho=>hg.2.2 (D9 ho).1⟩
theorem iP:∀ (ys xs:List AV),aN h S N ys xs->ys.length=xs.length
 |[],[],_=>rfl
 |_::ys,_::xs,h=>by simp only [aN] at h;simp [iP ys xs h.2]
 |[],_::_,h=>by simp [aN] at h
 |_::_,[],h=>by simp [aN] at h
theorem iQ:∀ (ys xs:List AV),aN h S N ys xs->∀ (i:Nat) (y:AV),ys[i]? =some y->∃ x,xs[i]? =some x/\rv h S N y x
 |[],[],_,i,y,hy=>by simp at hy
 |y::ys,x::xs,h,0,z,hz=>by
  simp only [aN] at h
  simp at hz;subst hz
  exact ⟨x,rfl,h.1⟩
 |y::ys,x::xs,h,i+1,z,hz=>by
  simp only [aN] at h
  simpa using iQ ys xs h.2 i z (by simpa using hz)
 |[],_::_,h,_,_,_=>by simp [aN] at h
 |_::_,[],h,_,_,_=>by simp [aN] at h
theorem VP.new {x:AV} {u:Value} (hv:VP w (ay C ρ w) x u):VP w (ay C (bY ρ S N) w) x u:=hv.mono (fun _=>Bu) (fun _ _=>rfl)
theorem Np (hr:HR C ρ U h w) {b g o n:Nat} {e:TypeId} {sz:Nat} {xs:List (List AV)} (hb:get h b=some (.row e sz xs)) (hl:ρ b= .at g o n) (hS:b ∉ S.map Prod.snd):
  ay C (bY ρ S N) w g:=by
 obtain ⟨h1,h2⟩:=hr.bE g ⟨b,o,n,hl⟩
 refine ⟨?_,h2,fun ho=> ?_⟩
 ·rcases h1 with h1|h1
  ·obtain ⟨b',o',n',hb'⟩:=C.wC g h1
   obtain ⟨h3,_,cs,h4⟩:=hr.fix b' _ hb'
   have:=hr.inj b b' g o n o' n' hl h3
   subst this
   rw [hb] at h4;cases h4
  ·exact .inr h1
 ·obtain ⟨_,k,b',o',n',hk,hb'⟩:=D9 ho
  have:=hr.inj b b' g o n o' n' hl hb'
  subst this
  exact hS (List.mem_map.2 ⟨_,get_mem hk,rfl⟩)
theorem afu (hr:HR C ρ U h w) {b g o n:Nat} (h4:4<=b) (hl:ρ b= .at g o n) (hS:b ∉ S.map Prod.snd):ay C (bY ρ S N) w g:=by
 obtain ⟨h1,h2⟩:=hr.bE g ⟨b,o,n,hl⟩
 refine ⟨?_,h2,fun ho=> ?_⟩
 ·rcases h1 with h1|h1
  ·obtain ⟨b',o',n',hb'⟩:=C.wC g h1
   obtain ⟨h3,_⟩:=hr.fix b' _ hb'
   have:=hr.inj b b' g o n o' n' hl h3
   have:=C.AU b' _ hb'
   omega
  ·exact .inr h1
 ·obtain ⟨_,k,b',o',n',hk,hb'⟩:=D9 ho
  have:=hr.inj b b' g o n o' n' hl hb'
  subst this
  exact hS (List.mem_map.2 ⟨_,get_mem hk,rfl⟩)
theorem Nq {b g o n:Nat} {e:TypeId} {sz:Nat} {xs:List (List AV)} (hr:HR C ρ U h w) (hb:get h b=some (.row e sz xs)) (hl:ρ b= .at g o n):
  (∀ (k:Nat) (x:List AV),xs[k]? =some x->x.length=sz)/\∃ f:Nat->Value,∀ (k:Nat) (x:List AV) (j:Nat) (c:AV),xs[k]? =some x->x[j]? =some c->
   w.cell? ⟨g,o+(k*sz+j),none⟩=some (f (k*sz+j))/\(f (k*sz+j)).oneCell'=true/\VP w (ay C ρ w) c (f (k*sz+j)):=by
 obtain ⟨_,ho⟩:=hr.hp b _ hb
 rw [hl] at ho
 rcases ho with ⟨h1,_⟩|⟨g',o',n',cells,h1,h2,h3,h4,h5,h6⟩
 ·cases h1
 ·cases h1
  refine ⟨h5,fun i=>(cells[o+i]?).getD undef,fun k x j c hk hj=> ?_⟩
  obtain ⟨u,hu,h7,h8⟩:=h6 k x j c hk hj
  simp only [hu,Option.getD_some]
  exact ⟨by simp [World.cell?,h2,hu],h7,h8⟩
theorem afv (hr:HR C ρ U h w) {x:AV} {u:Value} (hv:VP w (ay C ρ w) x u):∀ x',rv h S N x' x->VR w (ay C (bY ρ S N) w) (bY ρ S N) (nQ S N) x' u:=by
 induction hv with
 |v a=>
  intro x' hx
  cases x' with
  |v b=>
   simp only [rv] at hx
   cases hx;exact .p (.v _)
  |sl sz ys=>
   unfold rv at hx
   split at hx
   ·rename_i e;cases e
   ·rename_i e;cases e;subst hx;exact .p .fO
   ·rename_i e;cases e
   ·exact hx.elim
  |own k sz off len=>
   unfold rv at hx
   split at hx
   ·rename_i e;cases e
   ·rename_i e;cases e
    obtain ⟨hN,hS,rfl⟩:=hx
    refine .own (.inr hN) ⟨⟨_,_,_,rfl⟩,?_⟩
    have:bY ρ S N k= .nil:=by simp [bY,hS,hN]
    rw [this];exact ⟨rfl,rfl⟩
   ·exact hx.elim
  |_=>simp only [rv] at hx
 |agg hl hc ih=>
  intro x' hx
  cases x'<;>simp only [rv] at hx<;>try (cases hx;done)
  have h1:=iP _ _ hx
  refine .agg (by omega) fun i c u hi hu=> ?_
  obtain ⟨x,h2,h3⟩:=iQ _ _ hx i c hi
  exact ih i x u h2 hu c h3
 |aT hl hc ih=>
  intro x' hx
  cases x'<;>simp only [rv] at hx<;>try (cases hx;done)
  have h1:=iP _ _ hx
  refine .aT (by omega) fun i c u hi hu=> ?_
  obtain ⟨x,h2,h3⟩:=iQ _ _ hx i c hi
  exact ih i x u h2 hu c h3
 |fn hf hl hc ih=>
  intro x' hx
  cases x'<;>simp only [rv] at hx<;>try (cases hx;done)
  obtain ⟨rfl,hx⟩:=hx
  have h1:=iP _ _ hx
  refine .fn hf (by omega) fun i c u hi hu=> ?_
  obtain ⟨x,h2,h3⟩:=iQ _ _ hx i c hi
  exact ih i x u h2 hu c h3
 |kZ h hc ih=>
  intro x' hx
  cases x'<;>simp only [rv] at hx<;>try (cases hx;done)
  obtain ⟨rfl,hx⟩:=hx
  rename_i ys
  match ys,hx with
  |[y],hx=>
   simp only [aN,and_true] at hx
   have h2:=ih y hx
   cases y<;>simp only [rv] at hx<;>try (cases hx;done)
   obtain ⟨rfl,rfl⟩:=hx
   exact .p (.kZ h2.rY hc)
  |[],hx=>simp only [aN] at hx
  |_::_::_,hx=>simp only [aN,and_false] at hx
 |fO=>
  intro x' hx
  cases x'<;>simp only [rv] at hx<;>try (cases hx;done)
  obtain ⟨rfl,rfl⟩:=hx
  exact .p .fO
 |sl a n cap f hn hcap hk hl hc hv ih=>
  intro x' hx
  cases x'<;>simp only [rv] at hx<;>try (cases hx;done)
  obtain ⟨rfl,rfl⟩:=hx
  exact .p (VP.new (.sl a n cap f hn hcap hk hl hc hv))
 |bW g o f hk hc hv ih=>
  intro x' hx
  cases x'<;>simp only [rv] at hx<;>try (cases hx;done)
  obtain ⟨rfl,rfl⟩:=hx
  exact .p (VP.new (.bW g o f hk hc hv))
theorem uL (hr:HR C ρ U h w) {x:AV} {u:Value} (hv:VR w (ay C ρ w) ρ U x u):∀ x',rv h S N x' x->VR w (ay C (bY ρ S N) w) (bY ρ S N) (nQ S N) x' u:=by
 induction hv with
 |p hv=>exact afv hr hv
 |agg hl hc ih=>
  intro x' hx
  cases x'<;>simp only [rv] at hx<;>try (cases hx;done)
  have h1:=iP _ _ hx
  refine .agg (by omega) fun i c u hi hu=> ?_
  obtain ⟨x,h2,h3⟩:=iQ _ _ hx i c hi
  exact ih i x u h2 hu c h3
 |aT hl hc ih=>
  intro x' hx
  cases x'<;>simp only [rv] at hx<;>try (cases hx;done)
  have h1:=iP _ _ hx
  refine .aT (by omega) fun i c u hi hu=> ?_
  obtain ⟨x,h2,h3⟩:=iQ _ _ hx i c hi
  exact ih i x u h2 hu c h3
 |fn hf hl hc ih=>
  intro x' hx
  cases x'<;>simp only [rv] at hx<;>try (cases hx;done)
  obtain ⟨rfl,hx⟩:=hx
  have h1:=iP _ _ hx
  refine .fn hf (by omega) fun i c u hi hu=> ?_
  obtain ⟨x,h2,h3⟩:=iQ _ _ hx i c hi
  exact ih i x u h2 hu c h3
 | @own b sz off len u hu ho=>
  intro x' hx
  cases x' with
  |own k sz' off' len'=>
   simp only [rv] at hx
   obtain ⟨h1,rfl,rfl,rfl⟩:=hx
   exact .own (Bt h1) (by rw [wS h1];exact ho)
  |sl sz' ys=>
   simp only [rv] at hx
   obtain ⟨hS,rfl,hx⟩:=hx
   split at hx
   ·rename_i e eB xs hb
    obtain ⟨rfl,hle,rfl⟩:=hx
    obtain ⟨_,iM⟩:=hr.hp b _ hb
    obtain ⟨_,ho⟩:=ho
    cases hl:ρ b with
    |dead=>
     rw [hl] at iM
     rcases iM with ⟨h1,_⟩|⟨g,o,n,cells,h1,_⟩<;>cases h1
    |nil=>
     rw [hl] at ho
     obtain ⟨rfl,rfl⟩:=ho
     simp only [List.take_zero]
     exact .p .fO
    |«at» g o n=>
     rw [hl] at ho
     obtain ⟨h5,f,hf⟩:=Nq hr hb hl
     have hok:=Np (S:=S) (N:=N) hr hb hl hS
     have hlen:((xs.drop off).take len).length=len:=by simp;omega
     have hget:∀ (k:Nat) (x:List AV),((xs.drop off).take len)[k]? =some x->xs[off+k]? =some x:=fun k x hk=>by
      rw [List.getElem?_take] at hk
      split at hk
      ·rw [List.getElem?_drop] at hk;exact hk
      ·cases hk
     rcases ho with ⟨rfl,_,rfl|⟨a,rfl⟩⟩|⟨cap,h1,h2,rfl⟩
     ·simp only [List.take_zero]
      exact .p .fO
     ·simp only [List.take_zero]
      exact .p (.sl a 0 0 (fun _ _=>undef) rfl (Nat.le_refl _) (fun h=>absurd h (by simp)) (fun k e h=>by simp at h) (fun k e j c h=>by simp at h) (fun k e j c h=>by simp at h))
     ·refine .p (.sl ⟨g,o+off*sz',none⟩ len cap (fun k j=>f ((off+k)*sz'+j)) hlen.symm h1 (fun _=>⟨rfl,hok⟩) (fun k e hk=>h5 _ e (hget k e hk)) (fun k e j c hk hj=> ?_) (fun k e j c hk hj=> ?_))
      ·obtain ⟨h6,h7,_⟩:=hf _ e j c (hget k e hk) hj
       refine ⟨?_,h7⟩
       rw [<-h6]
       congr 2
       simp only [Nat.add_mul];omega
      ·exact (hf _ e j c (hget k e hk) hj).2.2.new
   ·rename_i cs hb
    obtain ⟨h4,rfl,hcl,hp,h1c,rfl⟩:=hx
    obtain ⟨_,g,o,n,e,cells,hl,hg,_,hn,hcc⟩:=hr.hp b _ hb
    obtain ⟨_,ho⟩:=ho
    rw [hl] at ho
    have hok:=afu (S:=S) (N:=N) hr h4 hl hS
    obtain ⟨k1,k2⟩:=Nn len cs hcl
    rcases ho with ⟨rfl,_,rfl|⟨a,rfl⟩⟩|⟨cap,h1,h2,rfl⟩
    ·exact .p .fO
    ·exact .p (.sl a 0 0 (fun _ _=>undef) rfl (Nat.le_refl _) (fun h=>absurd h (by simp [mh])) (fun k e h=>by simp [mh] at h) (fun k e j c h=>by simp [mh] at h) (fun k e j c h=>by simp [mh] at h))
    ·have key:∀ (k:Nat) (x:List AV) (j:Nat) (c:AV),(mh sz' len cs)[k]? =some x->x[j]? =some c->∃ u,cells[o+(k*sz'+j)]? =some u/\VR w (ay C ρ w) ρ U c u/\c.pure=true/\c.one=true:=fun k x j c hk hj=>by
      have hc0:=(k2 k x hk).2 j c hj
      obtain ⟨u,hu,hv⟩:=hcc _ c hc0
      exact ⟨u,hu,hv,DI _ hp _ c hc0,Mq _ h1c _ c hc0⟩
     refine .p (.sl ⟨g,o+0*sz',none⟩ len cap (fun k j=>(cells[o+(k*sz'+j)]?).getD undef) k1.symm h1 (fun _=>⟨rfl,hok⟩) (fun k e hk=>(k2 k e hk).1) (fun k e j c hk hj=> ?_) (fun k e j c hk hj=> ?_))
     ·obtain ⟨u,hu,hv,_,h1'⟩:=key k e j c hk hj
      simp only [hu,Option.getD_some]
      refine ⟨?_,hv.one h1'⟩
      rw [lC hg,<-hu]
      congr 1;omega
     ·obtain ⟨u,hu,hv,hp',_⟩:=key k e j c hk hj
      simp only [hu,Option.getD_some]
      exact (VP.yG hv hp').new
   ·exact hx.elim
  |_=>simp only [rv] at hx<;>cases hx
 | @ptr b j a hu ho=>
  intro x' hx
  cases x'<;>simp only [rv] at hx<;>try (cases hx;done)
  obtain ⟨h1,rfl⟩:=hx
  exact .ptr a (Bt h1) (by rw [wS h1];exact ho)
 | @rp b sz k j a hu ho=>
  intro x' hx
  cases x' with
  |rp k' sz' i' j'=>
   simp only [rv] at hx
   obtain ⟨h1,rfl,rfl,rfl⟩:=hx
   exact .rp a (Bt h1) (by rw [wS h1];exact ho)
  |bW cs j'=>
   simp only [rv] at hx
   obtain ⟨hS,rfl,hx⟩:=hx
   split at hx
   ·rename_i e eB xs hb
    obtain ⟨rfl,hlt,rfl⟩:=hx
    obtain ⟨_,iM⟩:=hr.hp b _ hb
    cases hl:ρ b with
    |dead=>
     rw [hl] at iM
     rcases iM with ⟨h1,_⟩|⟨g,o,n,cells,h1,_⟩<;>cases h1
    |nil=>
     rw [hl] at iM
     rcases iM with ⟨_,rfl⟩|⟨g,o,n,cells,h1,_⟩
     ·simp at hlt
     ·cases h1
    |«at» g o n=>
     obtain ⟨h5,f,hf⟩:=Nq hr hb hl
     have hok:=Np (S:=S) (N:=N) hr hb hl hS
     have hk:xs[k]? =some (nth xs k):=by simp [nth,hlt]
     have ha:=ho g o n hl
     subst ha
     have e1:o+(k*sz+j')=(o+k*sz)+j':=by omega
     rw [e1]
     refine .p (.bW g (o+k*sz) (fun i=>f (k*sz+i)) hok (fun i c hi=> ?_) (fun i c hi=> ?_))
     ·rw [<-(hf k _ i c hk hi).1]
      congr 2
      omega
     ·exact (hf k _ i c hk hi).2.2.new
   ·exact hx.elim
  |_=>simp only [rv] at hx<;>cases hx
 | @mp b r hu ho=>
  intro x' hx
  cases x'<;>simp only [rv] at hx<;>try (cases hx;done)
  exact .mp r (Bt hx) (by rw [wS hx];exact ho)
theorem afw {h h':List (Nat×Ob)} (hS:sN h S N h'=true):(∀ k k' b,get S k=some b->get S k'=some b->k=k')/\(∀ k ∈ N,get S k=none)/\(∀ k o,get h' k=some o->k ∈ S.map Prod.fst\/k ∈ N)/\
  ∀ b,b<4->∀ cs,get h b=some (.box cs)->get S b=some b:=by
 simp only [sN,Bool.and_eq_true,decide_eq_true_eq,List.all_eq_true,Bool.not_eq_true',Bool.or_eq_true] at hS
 obtain ⟨h1,h2,h3,h4,h5,h6,h7⟩:=hS
 refine ⟨fun k k' b hk hk'=> ?_,fun k hk=> ?_,fun k o hk=> ?_,fun b hb cs hcs=> ?_⟩
 ·clear h2 h3 h4 h5 h6 h7
  induction S with
  |nil=>simp [get] at hk
  |cons p S ih=>
   obtain ⟨x,y⟩:=p
   simp only [List.map_cons,List.nodup_cons] at h1
   simp only [get] at hk hk'
   split at hk<;>split at hk'
   ·rename_i e1 e2;rw [<-e1,<-e2]
   ·cases hk
    exact absurd (List.mem_map.2 ⟨_,get_mem hk',rfl⟩) h1.1
   ·cases hk'
    exact absurd (List.mem_map.2 ⟨_,get_mem hk,rfl⟩) h1.1
   ·exact ih h1.2 hk hk'
 ·cases hg:get S k with
  |none=>rfl
  |some b=>
   have:=h2 k hk
   have hm:k ∈ S.map Prod.fst:=List.mem_map.2 ⟨_,get_mem hg,rfl⟩
   simp only [List.contains_iff_mem,List.contains_eq_mem,decide_eq_false_iff_not] at this
   exact absurd hm this
 ·have:=h3 k (List.mem_map.2 ⟨_,get_mem hk,rfl⟩)
  simpa using this
 ·have key:∀ b,wR h S b=true->∀ cs,get h b=some (.box cs)->get S b=some b:=fun b hb cs hcs=>by
   unfold wR at hb
   rw [hcs] at hb
   simpa using hb
  match b,hb with
  |0,_=>exact key 0 h4 cs hcs
  |1,_=>exact key 1 h5 cs hcs
  |2,_=>exact key 2 h6 cs hcs
  |3,_=>exact key 3 h7 cs hcs
theorem Bv {h h':List (Nat×Ob)}:∀ (l:List (Nat×Nat)),gX h S N h' l->∀ k b,get l k=some b->∃ y x,get h' k=some y/\get h b=some x/\cO h S N y x
 |[],_,k,b,hk=>by simp [get] at hk
 |(k0,b0)::l,hh,k,b,hk=>by
  simp only [gX] at hh
  simp only [get] at hk
  split at hk
  ·rename_i e;cases hk;subst e
   obtain ⟨h1,_⟩:=hh
   split at h1
   ·rename_i y x hy hx;exact ⟨y,x,hy,hx,h1⟩
   ·exact h1.elim
  ·exact Bv l hh.2 k b hk
theorem IB {h':List (Nat×Ob)}:∀ (l:List Nat),qx h' l->∀ k ∈ l,∃ e sz,get h' k=some (.row e sz [])
 |[],_,k,hk=>by simp at hk
 |k0::l,hh,k,hk=>by
  simp only [qx] at hh
  rcases List.mem_cons.1 hk with rfl|hk
  ·obtain ⟨h1,_⟩:=hh
   split at h1
   ·rename_i e sz xs hg;subst h1;exact ⟨e,sz,hg⟩
   ·exact h1.elim
  ·exact IB l hh.2 k hk
theorem IC:∀ (ys xs:List (Value×AV)),qw h S N ys xs->ys.length=xs.length/\∀ (i:Nat) (k:Value) (y:AV),ys[i]? =some (k,y)->∃ x,xs[i]? =some (k,x)/\rv h S N y x
 |[],[],_=>⟨rfl,fun i k y h=>by simp at h⟩
 |(k,y)::l,(k',x)::l',hh=>by
  simp only [qw] at hh
  obtain ⟨rfl,h2,h3⟩:=hh
  obtain ⟨h4,h5⟩:=IC l l' h3
  refine ⟨by simp [h4],fun i k0 y0 hi=> ?_⟩
  cases i with
  |zero=>simp at hi;obtain ⟨rfl,rfl⟩:=hi;exact ⟨x,rfl,h2⟩
  |succ i=>simpa using h5 i k0 y0 (by simpa using hi)
 |[],_::_,hh=>by simp [qw] at hh
 |_::_,[],hh=>by simp [qw] at hh
theorem Ea (hr:HR C ρ U h w) (hS:sN h S N h'=true) (hH:gX h S N h' S) (hN:qx h' N):HR C (bY ρ S N) (nQ S N) h' w:=by
 obtain ⟨inj,hNS,hdom,h4⟩:=afw hS
 refine ⟨fun k o hk=> ?_,fun k hk=> ?_,fun k k' g o n o' n' h1 h2=> ?_,hr.os,hr.tape,hr.output,hr.size,hr.old,hr.kL,fun g ho=>hr.bE g (D9 ho).1,fun b l hb=> ?_⟩
 ·refine ⟨hdom k o hk,?_⟩
  cases hg:get S k with
  |some b=>
   rw [wS hg]
   obtain ⟨y,x,hy,hx,hv⟩:=Bv S hH k b hg
   rw [hk] at hy;cases hy
   obtain ⟨_,iM⟩:=hr.hp b x hx
   cases o<;>cases x<;>simp only [cO] at hv
   ·rename_i ys xs
    obtain ⟨g,o,n,e,cells,h1,h2,h3,h5,h6⟩:=iM
    have hl:=iP _ _ hv
    refine ⟨g,o,n,e,cells,h1,h2,h3,by omega,fun j c hj=> ?_⟩
    obtain ⟨x,hx,hxv⟩:=iQ _ _ hv j c hj
    obtain ⟨u,hu,huv⟩:=h6 j x hx
    exact ⟨u,hu,uL hr huv c hxv⟩
   ·obtain ⟨rfl,rfl,rfl⟩:=hv
    rcases iM with iM|⟨g,o,n,cells,h1,h2,h3,h5,h6,h7⟩
    ·exact .inl iM
    ·refine .inr ⟨g,o,n,cells,h1,h2,h3,h5,h6,fun k x j c hk hj=> ?_⟩
     obtain ⟨u,hu,h8,h9⟩:=h7 k x j c hk hj
     exact ⟨u,hu,h8,h9.new⟩
   ·obtain ⟨g,aH,clock,h1,h2,h3,h5⟩:=iM
    obtain ⟨hl,IE⟩:=IC _ _ hv
    refine ⟨g,aH,clock,h1,h2,by omega,fun i k c m hi he=> ?_⟩
    obtain ⟨x,hx,hxv⟩:=IE i k c hi
    exact ⟨(h5 i k x m hx he).1,uL hr (h5 i k x m hx he).2 c hxv⟩
  |none=>
   have hkN:k ∈ N:=by
    rcases hdom k o hk with h|h
    ·obtain ⟨b,hb⟩:=IA h
     rw [hg] at hb;cases hb
    ·exact h
   obtain ⟨e,sz,hrow⟩:=IB N hN k hkN
   rw [hk] at hrow;cases hrow
   refine .inl ⟨?_,rfl⟩
   simp only [bY,hg,hkN,if_true]
 ·cases hg:get S k with
  |some b=>
   obtain ⟨y,x,hy,_⟩:=Bv S hH k b hg
   rw [hk] at hy;cases hy
  |none=>
   have hkN:k ∉ N:=fun h=>by
    obtain ⟨e,sz,hrow⟩:=IB N hN k h
    rw [hk] at hrow;cases hrow
   simp only [bY,hg,hkN,if_false]
 ·have key:∀ k g o n,bY ρ S N k= .at g o n->∃ b,get S k=some b/\ρ b= .at g o n:=fun k g o n hk=>by
   unfold bY at hk
   split at hk
   ·rename_i b hb;exact ⟨b,hb,hk⟩
   ·split at hk<;>cases hk
  obtain ⟨b,hb,hl⟩:=key k g o n h1
  obtain ⟨b',hb',hl'⟩:=key k' g o' n' h2
  have:=hr.inj b b' g o n o' n' hl hl'
  subst this
  exact inj k k' b hb hb'
 ·obtain ⟨h1,h2,cs,h3⟩:=hr.fix b l hb
  have hg:=h4 b (C.AU b l hb) cs h3
  refine ⟨by rw [wS hg];exact h1,Bt hg,?_⟩
  obtain ⟨y,x,hy,hx,hv⟩:=Bv S hH b b hg
  rw [h3] at hx;cases hx
  cases y<;>simp only [cO] at hv
  exact ⟨_,hy⟩
theorem Wk.mk {s s':St} (S:List (Nat×Nat)) (N:List Nat) (hS:sN s.h S N s'.h=true) (hn:(S.map Prod.fst++N).all (fun k=>decide (k<s'.n))=true)
  (hH:gX s.h S N s'.h S) (hN:qx s'.h N) (hT:uK s.h S N s.t s'.t):Wk s s':=by
 intro C ρ U a w hR hU
 refine ⟨bY ρ S N,nQ S N,⟨Ea hR.hr hS hH hN,hR.defers,hR.sz,fun k x' hk=> ?_⟩,fun b hb=> ?_⟩
 ·have key:∀ l,uK s.h S N s.t l->get l k=some x'->∃ x,get s.t k=some x/\rv s.h S N x' x:=fun l=>by
   induction l with
   |nil=>intro _ h;simp [get] at h
   |cons p l ih=>
    obtain ⟨j,y⟩:=p
    intro h hg
    simp only [uK] at h
    simp only [get] at hg
    split at hg
    ·rename_i e;cases hg;subst e
     obtain ⟨h1,_⟩:=h
     split at h1
     ·rename_i x hx;exact ⟨x,hx,h1⟩
     ·exact h1.elim
    ·exact ih h.2 hg
  obtain ⟨x,hx,hv⟩:=key s'.t hT hk
  obtain ⟨u,hu,gL⟩:=hR.tm k x hx
  exact ⟨u,hu,uL hR.hr gL x' hv⟩
 ·simp only [List.all_eq_true,List.mem_append,decide_eq_true_eq] at hn
  rcases hb with hb|hb
  ·exact hn b (.inl hb)
  ·exact hn b (.inr hb)
theorem afx {h h':List (Nat×Ob)} {S:List (Nat×Nat)} {N:List Nat} {t:List (Nat×AV)} {k:Nat} {x':AV}:∀ l,uK h S N t l->get l k=some x'->∃ x,get t k=some x/\rv h S N x' x:=fun l=>by
 induction l with
 |nil=>intro _ h;simp [get] at h
 |cons p l ih=>
  obtain ⟨j,y⟩:=p
  intro h hg
  simp only [uK] at h
  simp only [get] at hg
  split at hg
  ·rename_i e;cases hg;subst e
   obtain ⟨h1,_⟩:=h
   split at h1
   ·rename_i x hx;exact ⟨x,hx,h1⟩
   ·exact h1.elim
  ·exact ih h.2 hg
theorem GU.mk {t t':List (Nat×AV)} {h h':List (Nat×Ob)} (S:List (Nat×Nat)) (hid:S.all (fun p=>p.1==p.2)=true) (hS:sN h S [] h'=true) (hH:gX h S [] h' S) (hT:uK h S [] t t'):GU t h t' h':=by
 intro C ρ U a w hR
 refine ⟨bY ρ S [],nQ S [],⟨Ea hR.hr hS hH (by simp only [qx]),hR.defers,hR.sz,fun k x' hk=> ?_⟩,fun b hb=> ?_⟩
 ·obtain ⟨x,hx,hv⟩:=afx (h':=h') t' hT hk
  obtain ⟨u,hu,gL⟩:=hR.tm k x hx
  exact ⟨u,hu,uL hR.hr gL x' hv⟩
 ·rcases hb with hb|hb
  ·obtain ⟨c,hc⟩:=IA hb
   have:=List.all_eq_true.1 hid _ (get_mem hc)
   simp only [beq_iff_eq] at this
   subst this
   obtain ⟨y,x,_,hx,_⟩:=Bv S hH b b hc
   exact (hR.hr.hp b x hx).1
  ·simp at hb
end
end Go.Eng
namespace Go.Eng
open Go
inductive fP where
 |tmp (k:Nat)
 |cell (k:Nat) (ag:Bool) (sz:Nat)
def uM (P:Program):List ResultVar->Option (List fP)
 |[]=>some []
 | .tmp k::l=>match uM P l with
  |some r=>some (.tmp k::r)
  |none=>none
 | .cell k ty::l=>match aggP P ty,sizeP P ty,uM P l with
  |some ag,some sz,some r=>some (.cell k ag sz::r)
  |_,_,_=>none
def oU (t:List (Nat×AV)) (h:List (Nat×Ob)):List fP->Option (List AV)
 |[]=>some []
 | .tmp k::l=>match get t k,oU t h l with
  |some x,some r=>some (x::r)
  |_,_=>none
 | .cell k ag sz::l=>match get t k,oU t h l with
  |some (.ptr b 0),some r=>match get h b with
   |some (.box cs)=>if ag then (if sz=cs.length then some (.agg cs::r) else none) else match cs with
    |c::_=>some (c::r)
    |[]=>none
   |_=>none
  |_,_=>none
def lF:List AV->AV
 |[x]=>x
 |xs=> .aT xs
def nR (tmps:Array Value):ResultVar->Sem Value
 | .tmp t=>pure (tmps.getD t undef)
 | .cell a t=>do loadVar t (<-asAddr (tmps.getD a undef))
section
variable {P:Program} {C:Ctx} {ρ:Nat->Loc} {U:Nat->Prop} {h:List (Nat×Ob)} {w:World} {t:List (Nat×AV)} {a:Act}
theorem Eb (hr:HR C ρ U h w) (ht:Tm C ρ U w t a):∀ (l:List ResultVar) (sl:List fP) (xs:List AV),uM P l=some sl->oU t h sl=some xs->
  ∃ vs:List Value,vs.length=l.length/\xs.length=l.length/\(∀ (i:Nat) (x:ResultVar) (v:Value),l[i]? =some x->vs[i]? =some v->(nR a.tmps x).run P w= .ok v w)/\
   ∀ (i:Nat) (x:AV) (v:Value),xs[i]? =some x->vs[i]? =some v->VR w (ay C ρ w) ρ U x v
 |[],sl,xs,hs,hx=>by
  simp only [uM,Option.some.injEq] at hs
  subst hs
  simp only [oU,Option.some.injEq] at hx
  subst hx
  exact ⟨[],rfl,rfl,fun i x v h=>by simp at h,fun i x v h=>by simp at h⟩
 | .tmp k::l,sl,xs,hs,hx=>by
  simp only [uM] at hs
  split at hs
  ·rename_i r hr'
   cases hs
   simp only [oU] at hx
   split at hx
   ·rename_i x r' hxk hrr
    cases hx
    obtain ⟨vs,h1,h2,h3,h4⟩:=Eb hr ht l r r' hr' hrr
    obtain ⟨u,hu,hv⟩:=ht k x hxk
    refine ⟨u::vs,by simp [h1],by simp [h2],fun i y v hy hv'=> ?_,fun i y v hy hv'=> ?_⟩
    ·cases i with
     |zero=>
      simp at hy hv';subst hy;subst hv'
      simp [nR,hu]
     |succ i=>exact h3 i y v (by simpa using hy) (by simpa using hv')
    ·cases i with
     |zero=>simp at hy hv';subst hy;subst hv';exact hv
     |succ i=>exact h4 i y v (by simpa using hy) (by simpa using hv')
   ·cases hx
  ·cases hs
 | .cell k ty::l,sl,xs,hs,hx=>by
  simp only [uM] at hs
  split at hs
  ·rename_i ag sz r hag hsz hr'
   cases hs
   simp only [oU] at hx
   split at hx
   ·rename_i b r' hxk hrr
    split at hx
    ·rename_i cs hb
     obtain ⟨vs,h1,h2,h3,h4⟩:=Eb hr ht l r r' hr' hrr
     obtain ⟨u,hu,hv⟩:=ht k _ hxk
     obtain ⟨_,ad,rfl,had⟩:=hv.qi
     obtain ⟨_,g,o,n,e,cells,hl,hg,hon,hn,hc⟩:=hr.hp b _ hb
     have ha:=had g o n hl
     subst ha
     have hL:=MC (P:=P) (w:=w) (ρ:=ρ) (U:=U) (g:=g) (o:=o) hag hsz (cs:=cs) (vs:=((List.range cs.length).map fun i=>(cells[o+i]?).getD undef).toArray) (ok:=ay C ρ w) (by simp)
      (fun j v hj=>by
       rw [ranged] at hj
       obtain ⟨hlt,rfl⟩:=hj
       rw [lC hg,Array.getElem?_eq_getElem (show o+j<cells.size by omega)]
       rfl)
      (fun j c v hj hv=>by
       rw [ranged] at hv
       obtain ⟨hlt,rfl⟩:=hv
       obtain ⟨u,hu,hv⟩:=hc j c hj
       rw [hu];exact hv)
     have fin:∀ x,(∃ v,(loadVar ty ⟨g,o,none⟩).run P w= .ok v w/\VR w (ay C ρ w) ρ U x v)->xs=x::r'->∃ vs:List Value,vs.length=(ResultVar.cell k ty::l).length/\xs.length=(ResultVar.cell k ty::l).length/\(∀ (i:Nat) (x:ResultVar) (v:Value),(ResultVar.cell k ty::l)[i]? =some x->vs[i]? =some v->(nR a.tmps x).run P w= .ok v w)/\
        ∀ (i:Nat) (x:AV) (v:Value),xs[i]? =some x->vs[i]? =some v->VR w (ay C ρ w) ρ U x v:=fun x hxv hxs=>by
      obtain ⟨v,hrun,gL⟩:=hxv
      exact ⟨v::vs,by simp [h1],by rw [hxs];simp [h2],fun i y v' hy hv'=>by
       cases i with
       |zero=>
        simp at hy hv';subst hy;subst hv'
        simp only [nR,Sem.run_bind,Array.getD_eq_getD_getElem?,hu,Option.getD_some,asAddr,Sem.run_pure,Result.andThen_ok]
        exact hrun
       |succ i=>exact h3 i y v' (by simpa using hy) (by simpa using hv'),fun i y v' hy hv'=>by
       rw [hxs] at hy
       cases i with
       |zero=>simp at hy hv';subst hy;subst hv';exact gL
       |succ i=>exact h4 i y v' (by simpa using hy) (by simpa using hv')⟩
     split at hx
     ·rename_i hag'
      split at hx
      ·rename_i hsz'
       cases hx
       exact fin _ (hL.1 hag' hsz') rfl
      ·cases hx
     ·rename_i hag'
      split at hx
      ·rename_i c cs'
       cases hx
       exact fin _ (hL.2 (by simpa using hag') c rfl) rfl
      ·cases hx
    ·cases hx
   ·cases hx
  ·cases hs
theorem Bw {fn:Func} (tmps:Array Value) (w:World) {l:List ResultVar} (hl:fn.results.toList=l) {vs:List Value} (h1:vs.length=l.length) (h3:l.length<=5)
  (hv:∀ (i:Nat) (x:ResultVar) (v:Value),l[i]? =some x->vs[i]? =some v->(nR tmps x).run P w= .ok v w):
  (results fn tmps).run P w= .ok (if h:vs.length=1 then vs[0] else .tuple vs.toArray) w:=by
 have he:fn.results=l.toArray:=by rw [<-hl]
 have e0:results fn tmps=(do let vs <-l.toArray.mapM (nR tmps);pure (if h:vs.size=1 then vs[0] else .tuple vs)):=by
  rw [<-he]
  unfold results
  rfl
 rw [e0]
 clear he e0
 subst hl
 revert hv h1 h3
 generalize fn.results.toList=l
 intro h1 h3 hv
 match l,vs,h1,hv with
 |[],[],_,_=>simp
 |[x],[v],_,hv=>
  have:=(hv 0 x v rfl rfl)
  simp [this]
 |[x,y],[v,u],_,hv=>
  have e1:=(hv 0 x v rfl rfl)
  have e2:=(hv 1 y u rfl rfl)
  simp [e1,e2]
 |[x,y,z],[v,u,q],_,hv=>
  have e1:=(hv 0 x v rfl rfl)
  have e2:=(hv 1 y u rfl rfl)
  have e3:=(hv 2 z q rfl rfl)
  simp [e1,e2,e3]
 |[x,y,z,x'],[v,u,q,v'],_,hv=>
  have e1:=(hv 0 x v rfl rfl)
  have e2:=(hv 1 y u rfl rfl)
  have e3:=(hv 2 z q rfl rfl)
  have e4:=(hv 3 x' v' rfl rfl)
  simp [e1,e2,e3,e4]
 |[x,y,z,x',y'],[v,u,q,v',u'],_,hv=>
  have e1:=(hv 0 x v rfl rfl)
  have e2:=(hv 1 y u rfl rfl)
  have e3:=(hv 2 z q rfl rfl)
  have e4:=(hv 3 x' v' rfl rfl)
  have e5:=(hv 4 y' u' rfl rfl)
  simp [e1,e2,e3,e4,e5]
 |_::_::_::_::_::_::_,_,_,_=>simp at h3
theorem Nr {xs:List AV} {vs:List Value} (hl:xs.length=vs.length) (hv:∀ (i:Nat) (x:AV) (v:Value),xs[i]? =some x->vs[i]? =some v->VR w (ay C ρ w) ρ U x v):
  VR w (ay C ρ w) ρ U (lF xs) (if h:vs.length=1 then vs[0] else .tuple vs.toArray):=by
 match xs,vs,hl,hv with
 |[],[],_,_=>exact .aT rfl (fun i c u h=>by simp at h)
 |[x],[v],_,hv=>exact hv 0 x v rfl rfl
 |x::y::xs,v::u::vs,hl,hv=>
  rw [dif_neg (by simp)]
  refine .aT (by simpa using hl) fun i c u' hi hu=>hv i c u' hi (by simpa using hu)
end
end Go.Eng
namespace Go.Eng
open Go
def fC:Nat->List Ob->List (Nat×Ob)
 |_,[]=>[]
 |k,o::l=>(k,o)::fC (k+1) l
def iR (k:Nat) (bs:List (List AV)):List (Nat×Ob):=fC k (bs.map .box)
def gy:List Nat->List (List AV)->List (Nat×Ob)
 |b::B,cs::bs=>(b,.box cs)::gy B bs
 |_,_=>[]
def outs (bs:List (List AV)) (es:List Ob):List (Nat×Ob):=iR 0 bs++fC 4 es
mutual
def sh (nm:Nat):AV->AV
 | .own k sz off len=> .own (nm+(k - 4)) sz off len
 | .ptr k j=> .ptr (nm+(k - 4)) j
 | .agg cs=> .agg (lG nm cs)
 | .aT cs=> .aT (lG nm cs)
 | .fn f cs=> .fn f (lG nm cs)
 |x=>x
def lG (nm:Nat):List AV->List AV
 |[]=>[]
 |c::cs=>sh nm c::lG nm cs
end
mutual
def dX (m:Nat):AV->Bool
 | .v _=>true
 | .sl _ _=>true
 | .bW _ _=>true
 | .own k _ _ _=>decide (4<=k)&&decide (k<4+m)
 | .ptr k _=>decide (4<=k)&&decide (k<4+m)
 | .agg cs=>kQ m cs
 | .aT cs=>kQ m cs
 | .fn _ cs=>kQ m cs
 |_=>false
def kQ (m:Nat):List AV->Bool
 |[]=>true
 |c::cs=>dX m c&&kQ m cs
end
mutual
def na:AV->Bool
 | .v _=>true
 | .own _ _ _ _=>true
 | .agg cs=>nS cs
 | .aT cs=>nS cs
 | .fn _ cs=>nS cs
 |_=>false
def nS:List AV->Bool
 |[]=>true
 |c::cs=>na c&&nS cs
end
theorem mo (nm:Nat):∀ (cs:List AV) (i:Nat) (c:AV),(lG nm cs)[i]? =some c->∃ x,cs[i]? =some x/\c=sh nm x
 |[],i,c,h=>by simp [lG] at h
 |x::cs,0,c,h=>by simp [lG] at h;exact ⟨x,rfl,h.symm⟩
 |x::cs,i+1,c,h=>by
  simp only [lG,List.getElem?_cons_succ] at h
  simpa using mo nm cs i c h
theorem mq (nm:Nat):∀ (cs:List AV),(lG nm cs).length=cs.length
 |[]=>rfl
 |x::cs=>by simp [lG,mq nm cs]
theorem wT {m:Nat}:∀ (cs:List AV),kQ m cs=true->∀ (i:Nat) (c:AV),cs[i]? =some c->dX m c=true
 |[],_,i,c,h=>by simp at h
 |x::cs,hh,0,c,h=>by simp only [kQ,Bool.and_eq_true] at hh;simp at h;subst h;exact hh.1
 |x::cs,hh,i+1,c,h=>by simp only [kQ,Bool.and_eq_true] at hh;exact wT cs hh.2 i c (by simpa using h)
theorem lH:∀ (cs:List AV),nS cs=true->∀ (i:Nat) (c:AV),cs[i]? =some c->na c=true
 |[],_,i,c,h=>by simp at h
 |x::cs,hh,0,c,h=>by simp only [nS,Bool.and_eq_true] at hh;simp at h;subst h;exact hh.1
 |x::cs,hh,i+1,c,h=>by simp only [nS,Bool.and_eq_true] at hh;exact lH cs hh.2 i c (by simpa using h)
theorem gY:∀ (l:List Ob) (k j:Nat),get (fC k l) j=if k<=j then l[j - k]? else none
 |[],k,j=>by simp [fC]
 |o::l,k,j=>by
  simp only [fC,get]
  by_cases e:k=j
  ·subst e;simp
  ·rw [if_neg e,gY l (k+1) j]
   by_cases h:k<=j
   ·rw [if_pos h,if_pos (show k+1<=j by omega)]
    have:j - k=(j - (k+1))+1:=by omega
    rw [this,List.getElem?_cons_succ]
   ·rw [if_neg h,if_neg (by omega)]
theorem get_append {α:Type} (us t:List (Nat×α)) (k:Nat):get (us++t) k=match get us k with
  |some x=>some x
  |none=>get t k:=by
 induction us with
 |nil=>rfl
 |cons p us ih=>
  obtain ⟨a,b⟩:=p
  simp only [List.cons_append,get]
  split
  ·rfl
  ·exact ih
theorem Bz {bs:List (List AV)} {es:List Ob} {i:Nat} {cs:List AV} (h:bs[i]? =some cs):get (outs bs es) i=some (.box cs):=by
 simp [outs,get_append,iR,gY,h]
theorem IG {bs:List (List AV)} {es:List Ob} {i:Nat} {o:Ob} (hb:bs.length<=4) (h:es[i]? =some o):get (outs bs es) (4+i)=some o:=by
 have:(bs.map Ob.box)[4+i]? =none:=by rw [List.getElem?_map,List.getElem?_eq_none (by omega)];rfl
 simp only [outs,get_append,iR,gY,Nat.zero_le,if_true,Nat.sub_zero,this]
 rw [if_pos (by omega)]
 have:4+i - 4=i:=by omega
 rw [this,h]
theorem wU:∀ (B:List Nat) (bs:List (List AV)) (k:Nat) (o:Ob),get (gy B bs) k=some o->∃ (i:Nat) (cs:List AV),B[i]? =some k/\bs[i]? =some cs/\o= .box cs
 |[],bs,k,o,h=>by simp [gy,get] at h
 |b::B,[],k,o,h=>by simp [gy,get] at h
 |b::B,cs::bs,k,o,h=>by
  simp only [gy,get] at h
  split at h
  ·rename_i e;cases h;subst e;exact ⟨0,cs,rfl,rfl,rfl⟩
  ·obtain ⟨i,cs',h1,h2,h3⟩:=wU B bs k o h
   exact ⟨i+1,cs',by simpa using h1,by simpa using h2,h3⟩
theorem Ec:∀ (B:List Nat) (bs:List (List AV)) (k:Nat),get (gy B bs) k=none->B.length=bs.length->k ∉ B
 |[],bs,k,h,hl=>by simp
 |b::B,[],k,h,hl=>by simp at hl
 |b::B,cs::bs,k,h,hl=>by
  simp only [gy,get] at h
  split at h
  ·cases h
  ·rename_i e
   have:=Ec B bs k h (by simpa using hl)
   simp only [List.mem_cons,not_or]
   exact ⟨fun h=>e h.symm,this⟩
section
variable {w w':World} {ok ok':Nat->Prop} {ρ ρ':Nat->Loc} {U U':Nat->Prop}
theorem dV.mono (hok:∀ g,ok g->ok' g) (hw:∀ g,ok g->w'.heap[g]? =w.heap[g]?) (hU:∀ b,U b->U' b) (hρ:Later U ρ ρ') {l:Loc} {o:Ob}
  (hl:∀ g o n,l= .at g o n->w'.heap[g]? =w.heap[g]?) (ho:dV w ok ρ U l o):dV w' ok' ρ' U' l o:=by
 cases o with
 |box cs=>
  obtain ⟨g,o,n,e,cells,h1,h2,h3,h4,h5⟩:=ho
  refine ⟨g,o,n,e,cells,h1,(hl g o n h1).trans h2,h3,h4,fun j c hj=> ?_⟩
  obtain ⟨u,hu,hv⟩:=h5 j c hj
  exact ⟨u,hu,hv.mono hok hw hU hρ⟩
 |row e sz xs=>
  rcases ho with ho|⟨g,o,n,cells,h1,h2,h3,h4,h5,h6⟩
  ·exact .inl ho
  ·refine .inr ⟨g,o,n,cells,h1,(hl g o n h1).trans h2,h3,h4,h5,fun k x j c hk hj=> ?_⟩
   obtain ⟨u,hu,h1c,hv⟩:=h6 k x j c hk hj
   exact ⟨u,hu,h1c,hv.mono hok hw⟩
 |map es=>
  obtain ⟨g,aH,clock,h1,h2,h3,h4⟩:=ho
  exact ⟨g,aH,clock,h1,(hl g 0 0 h1).trans h2,h3,fun i k c m hi he=>⟨(h4 i k c m hi he).1,(h4 i k c m hi he).2.mono hok hw hU hρ⟩⟩
 |dead=>exact ho
theorem VP.na {x:AV} {u:Value} (h:VP w ok x u):Eng.na x=true->VP w' ok' x u:=by
 induction h with
 |v x=>intro _;exact .v x
 |agg hl _ ih=>intro hn;exact .agg hl fun i c u h1 h2=>ih i c u h1 h2 (lH _ (by simpa [Eng.na] using hn) i c h1)
 |aT hl _ ih=>intro hn;exact .aT hl fun i c u h1 h2=>ih i c u h1 h2 (lH _ (by simpa [Eng.na] using hn) i c h1)
 |fn hf hl _ ih=>intro hn;exact .fn hf hl fun i c u h1 h2=>ih i c u h1 h2 (lH _ (by simpa [Eng.na] using hn) i c h1)
 |kZ h hc ih=>intro hn;simp [Eng.na,nS] at hn
 |fO=>intro hn;simp [Eng.na] at hn
 |sl=>intro hn;simp [Eng.na] at hn
 |bW=>intro hn;simp [Eng.na] at hn
theorem VR.sh {nm m:Nat} (hok:∀ g,ok g->ok' g) (hρ:∀ i,i<m->ρ' (nm+i)=ρ (4+i)) (hU:∀ i,i<m->U' (nm+i)) {x:AV} {u:Value} (h:VR w ok ρ U x u):
  dX m x=true->VR w ok' ρ' U' (Eng.sh nm x) u:=by
 have kp:∀ {x:AV} {u:Value},VP w ok x u->VR w ok' ρ' U' (Eng.sh nm x) u:=fun h=>by
  induction h with
  |v x=>exact .p (.v x)
  |agg hl _ ih=>
   refine .agg (by rw [mq];exact hl) fun i c u h1 h2=> ?_
   obtain ⟨x,hx,rfl⟩:=mo nm _ i c h1
   exact ih i x u hx h2
  |aT hl _ ih=>
   refine .aT (by rw [mq];exact hl) fun i c u h1 h2=> ?_
   obtain ⟨x,hx,rfl⟩:=mo nm _ i c h1
   exact ih i x u hx h2
  |fn hf hl _ ih=>
   refine .fn hf (by rw [mq];exact hl) fun i c u h1 h2=> ?_
   obtain ⟨x,hx,rfl⟩:=mo nm _ i c h1
   exact ih i x u hx h2
  |kZ h hc ih=>exact .p (.kZ (h.mono hok (fun _ _=>rfl)) hc)
  |fO=>exact .p .fO
  |sl a n cap f h1 h2 h3 h4 h5 h6=>exact .p ((VP.sl a n cap f h1 h2 h3 h4 h5 h6).mono hok (fun _ _=>rfl))
  |bW g o f h1 h2 h3=>exact .p ((VP.bW g o f h1 h2 h3).mono hok (fun _ _=>rfl))
 induction h with
 |p h=>intro _;exact kp h
 |agg hl _ ih=>
  intro he
  refine .agg (by rw [mq];exact hl) fun i c u h1 h2=> ?_
  obtain ⟨x,hx,rfl⟩:=mo nm _ i c h1
  exact ih i x u hx h2 (wT _ (by simpa [dX] using he) i x hx)
 |aT hl _ ih=>
  intro he
  refine .aT (by rw [mq];exact hl) fun i c u h1 h2=> ?_
  obtain ⟨x,hx,rfl⟩:=mo nm _ i c h1
  exact ih i x u hx h2 (wT _ (by simpa [dX] using he) i x hx)
 |fn hf hl _ ih=>
  intro he
  refine .fn hf (by rw [mq];exact hl) fun i c u h1 h2=> ?_
  obtain ⟨x,hx,rfl⟩:=mo nm _ i c h1
  exact ih i x u hx h2 (wT _ (by simpa [dX] using he) i x hx)
 |own hu h=>
  intro he
  simp only [dX,Bool.and_eq_true,decide_eq_true_eq] at he
  rename_i b sz off len u
  have e:4+(b - 4)=b:=by omega
  refine .own (hU _ (by omega)) ?_
  rw [hρ _ (by omega),e]
  exact h
 |ptr a hu h=>
  intro he
  simp only [dX,Bool.and_eq_true,decide_eq_true_eq] at he
  rename_i b j
  have e:4+(b - 4)=b:=by omega
  refine .ptr a (hU _ (by omega)) ?_
  rw [hρ _ (by omega),e]
  exact h
 |rp=>intro he;simp [dX] at he
 |mp=>intro he;simp [dX] at he
theorem VR.afy {nm m:Nat} (hρ:∀ i,i<m->ρ' (nm+i)=ρ (4+i)) (hU:∀ i,i<m->U' (nm+i)) {x:AV} {u:Value} (h:VR w ok ρ U x u):
  dX m x=true->Eng.na x=true->VR w' ok' ρ' U' (Eng.sh nm x) u:=by
 have kp:∀ {x:AV} {u:Value},VP w ok x u->Eng.na x=true->VR w' ok' ρ' U' (Eng.sh nm x) u:=fun h=>by
  induction h with
  |v x=>intro _;exact .p (.v x)
  |agg hl _ ih=>
   intro hn
   refine .agg (by rw [mq];exact hl) fun i c u h1 h2=> ?_
   obtain ⟨x,hx,rfl⟩:=mo nm _ i c h1
   exact ih i x u hx h2 (lH _ (by simpa [Eng.na] using hn) i x hx)
  |aT hl _ ih=>
   intro hn
   refine .aT (by rw [mq];exact hl) fun i c u h1 h2=> ?_
   obtain ⟨x,hx,rfl⟩:=mo nm _ i c h1
   exact ih i x u hx h2 (lH _ (by simpa [Eng.na] using hn) i x hx)
  |fn hf hl _ ih=>
   intro hn
   refine .fn hf (by rw [mq];exact hl) fun i c u h1 h2=> ?_
   obtain ⟨x,hx,rfl⟩:=mo nm _ i c h1
   exact ih i x u hx h2 (lH _ (by simpa [Eng.na] using hn) i x hx)
  |kZ h hc ih=>intro hn;simp [Eng.na,nS] at hn
  |fO=>intro hn;simp [Eng.na] at hn
  |sl=>intro hn;simp [Eng.na] at hn
  |bW=>intro hn;simp [Eng.na] at hn
 induction h with
 |p h=>intro _ hn;exact kp h hn
 |agg hl _ ih=>
  intro he hn
  refine .agg (by rw [mq];exact hl) fun i c u h1 h2=> ?_
  obtain ⟨x,hx,rfl⟩:=mo nm _ i c h1
  exact ih i x u hx h2 (wT _ (by simpa [dX] using he) i x hx) (lH _ (by simpa [Eng.na] using hn) i x hx)
 |aT hl _ ih=>
  intro he hn
  refine .aT (by rw [mq];exact hl) fun i c u h1 h2=> ?_
  obtain ⟨x,hx,rfl⟩:=mo nm _ i c h1
  exact ih i x u hx h2 (wT _ (by simpa [dX] using he) i x hx) (lH _ (by simpa [Eng.na] using hn) i x hx)
 |fn hf hl _ ih=>
  intro he hn
  refine .fn hf (by rw [mq];exact hl) fun i c u h1 h2=> ?_
  obtain ⟨x,hx,rfl⟩:=mo nm _ i c h1
  exact ih i x u hx h2 (wT _ (by simpa [dX] using he) i x hx) (lH _ (by simpa [Eng.na] using hn) i x hx)
 |own hu h=>
  intro he hn
  simp only [dX,Bool.and_eq_true,decide_eq_true_eq] at he
  rename_i b sz off len u
  have e:4+(b - 4)=b:=by omega
  refine .own (hU _ (by omega)) ?_
  rw [hρ _ (by omega),e]
  exact h
 |ptr=>intro he hn;simp [Eng.na] at hn
 |rp=>intro he;simp [dX] at he
 |mp=>intro he;simp [dX] at he
end
end Go.Eng
namespace Go.Eng
open Go
inductive It where
 |ops (nm n:Nat) (l:List SOper)
 |code (c:SCode)
 |blk (id:Nat)
 |lp (B:St->Prop)
 |aS (nm n:Nat) (l ops:List SOper) (acc:List aR)
def jv (P:Program) (Q:Exit->St->Prop):List It->St->Prop
 |[]=>Q .normal
 | .ops nm n l::k=>fun s=>wpOps P nm l s.t s.h fun t h=>jv P Q k ⟨n,t,h⟩
 | .code c::k=>fun s=>lu P c (fun e s'=>match e with
  | .normal=>jv P Q k s'
  | .exit id=>fQ P Q id k s'
  |e=>Q e s') s
 | .blk _::k=>jv P Q k
 | .lp B::_=>B
 | .aS nm n l ops acc::k=>fun s=>mg P nm l acc s.t s.h fun acc t h=>iL ops acc.reverse=true/\jv P Q k ⟨n,t,h⟩
where
 fQ (P:Program) (Q:Exit->St->Prop) (id:Nat):List It->St->Prop
 |[]=>Q (.exit id)
 | .blk i::k=>if i=id then jv P Q k else fQ P Q id k
 | .ops .. ::k=>fQ P Q id k
 | .code _::k=>fQ P Q id k
 | .lp _::k=>fQ P Q id k
 | .aS .. ::k=>fQ P Q id k
def go (P:Program) (k:List It) (Q:Exit->St->Prop) (n:Nat) (t:List (Nat×AV)) (h:List (Nat×Ob)):Prop:=jv P Q k ⟨n,t,h⟩
def fQ (P:Program) (id:Nat) (k:List It) (Q:Exit->St->Prop) (n:Nat) (t:List (Nat×AV)) (h:List (Nat×Ob)):Prop:=jv.fQ P Q id k ⟨n,t,h⟩
def wV (P:Program) (c:Option AV) (x y:SCode) (k:List It) (Q:Exit->St->Prop) (n:Nat) (t:List (Nat×AV)) (h:List (Nat×Ob)):Prop:=
 qm c (fun b=>Split b (go P (.code x::k) Q n t h) (go P (.code y::k) Q n t h)) False
def cZ (P:Program) (e:Option E) (op:SOp) (d:Option Nat) (nm n':Nat) (l:List SOper) (k:List It) (Q:Exit->St->Prop) (n:Nat) (t:List (Nat×AV)) (h:List (Nat×Ob)):Prop:=
 A8 nm t h op e fun t h e=>go P (.ops (nm+8) n' l::k) Q n (aZ t d e.val) (e.upd++h)
def wW (P:Program) (nm:Nat) (f:FuncId) (args:List AV) (d:Option Nat) (n':Nat) (l:List SOper) (k:List It) (Q:Exit->St->Prop) (n:Nat) (t:List (Nat×AV)) (h:List (Nat×Ob)):Prop:=
 AY P nm f args h fun r h'=>go P (.ops (nm+8) n' l::k) Q n (aZ t d r) h'
def goC (P:Program) (f:Option AV) (args:Option (List AV)) (d:Option Nat) (nm n':Nat) (l:List SOper) (k:List It) (Q:Exit->St->Prop) (n:Nat) (t:List (Nat×AV)) (h:List (Nat×Ob)):Prop:=
 uy f args fun g xs=>wW P nm g xs d n' l k Q n t h
def II (P:Program) (x:Option (Option Bool)) (neg:Bool) (d:Option Nat) (nm n':Nat) (l:List SOper) (k:List It) (Q:Exit->St->Prop) (n:Nat) (t:List (Nat×AV)) (h:List (Nat×Ob)):Prop:=
 DC x fun b=>go P (.ops (nm+8) n' l::k) Q n (aZ t d (.v (.bool (if neg then !b else b)))) h
def mD (P:Program) (c:Option AV) (o:SOper) (w:Bool) (nm n':Nat) (l:List SOper) (k:List It) (Q:Exit->St->Prop) (n:Nat) (t:List (Nat×AV)) (h:List (Nat×Ob)):Prop:=
 qm c (fun b=>Split b
   (bif w then go P (.ops nm n' ({o with guard:=none}::l)::k) Q n t h else go P (.ops (nm+8) n' l::k) Q n (aZ t o.dst (.v undef)) h)
   (bif w then go P (.ops (nm+8) n' l::k) Q n (aZ t o.dst (.v undef)) h else go P (.ops nm n' ({o with guard:=none}::l)::k) Q n t h))
  (go P (.ops (nm+8) n' l::k) Q n (aZ t o.dst (.v undef)) h)
def dh (P:Program) (e:Option E) (rd:List Nat) (d:Option Nat) (nm n':Nat) (l ops:List SOper) (acc:List aR) (k:List It) (Q:Exit->St->Prop) (n:Nat) (t:List (Nat×AV)) (h:List (Nat×Ob)):Prop:=
 onE e fun e=>go P (.aS (nm+8) n' l ops ((rd,e.upd.map Prod.fst)::acc)::k) Q n (aZ t d e.val) (e.upd++h)
def BB (P:Program) (nm:Nat) (f:FuncId) (args:List AV) (d:Option Nat) (n':Nat) (l ops:List SOper) (acc:List aR) (k:List It) (Q:Exit->St->Prop) (n:Nat) (t:List (Nat×AV)) (h:List (Nat×Ob)):Prop:=
 ∃ r,sw P nm f args h r/\go P (.aS (nm+8) n' l ops ((r.rd,r.upd.map Prod.fst)::acc)::k) Q n (aZ t d r.val) (r.upd++h)
def Ns (P:Program) (f:Option AV) (args:Option (List AV)) (d:Option Nat) (nm n':Nat) (l ops:List SOper) (acc:List aR) (k:List It) (Q:Exit->St->Prop) (n:Nat) (t:List (Nat×AV)) (h:List (Nat×Ob)):Prop:=
 uy f args fun g xs=>BB P nm g xs d n' l ops acc k Q n t h
def Nt (P:Program) (x:Option (Option Bool)) (neg:Bool) (d:Option Nat) (nm n':Nat) (l ops:List SOper) (acc:List aR) (k:List It) (Q:Exit->St->Prop) (n:Nat) (t:List (Nat×AV)) (h:List (Nat×Ob)):Prop:=
 GV x fun b=>go P (.aS (nm+8) n' l ops (([],[])::acc)::k) Q n (aZ t d (.v (.bool (if neg then !b else b)))) h
def qy (P:Program) (c:Option AV) (o:SOper) (w:Bool) (nm n':Nat) (l ops:List SOper) (acc:List aR) (k:List It) (Q:Exit->St->Prop) (n:Nat) (t:List (Nat×AV)) (h:List (Nat×Ob)):Prop:=
 qm c (fun b=>Split b
   (bif w then go P (.aS nm n' ({o with guard:=none}::l) ops acc::k) Q n t h else go P (.aS (nm+8) n' l ops (([],[])::acc)::k) Q n (aZ t o.dst (.v undef)) h)
   (bif w then go P (.aS (nm+8) n' l ops (([],[])::acc)::k) Q n (aZ t o.dst (.v undef)) h else go P (.aS nm n' ({o with guard:=none}::l) ops acc::k) Q n t h))
  (go P (.aS (nm+8) n' l ops (([],[])::acc)::k) Q n (aZ t o.dst (.v undef)) h)
section eqs
variable {P:Program} {k:List It} {Q:Exit->St->Prop} {n:Nat} {t:List (Nat×AV)} {h:List (Nat×Ob)}
theorem afz:go P [] Q n t h=Q .normal ⟨n,t,h⟩:=(rfl)
theorem IJ (a b:SCode):go P (.code (.seq a b)::k) Q n t h=go P (.code a:: .code b::k) Q n t h:=by
 simp only [go,jv,lu]
 congr 1
 funext e s
 cases e<;>rfl
theorem go_skip:go P (.code .skip::k) Q n t h=go P k Q n t h:=(rfl)
theorem afA (id:Nat):go P (.code (.exit id)::k) Q n t h=fQ P id k Q n t h:=(rfl)
theorem go_ret:go P (.code .ret::k) Q n t h=Q .ret ⟨n,t,h⟩:=(rfl)
theorem afB (id:Nat):go P (.blk id::k) Q n t h=go P k Q n t h:=(rfl)
theorem afC (B:St->Prop):go P (.lp B::k) Q n t h=B ⟨n,t,h⟩:=(rfl)
theorem afD (id i:Nat):fQ P id (.blk i::k) Q n t h=if i=id then go P k Q n t h else fQ P id k Q n t h:=by
 simp only [fQ,jv.fQ,go];split<;>rfl
theorem afE (id nm n':Nat) (l:List SOper):fQ P id (.ops nm n' l::k) Q n t h=fQ P id k Q n t h:=(rfl)
theorem afF (id:Nat) (c:SCode):fQ P id (.code c::k) Q n t h=fQ P id k Q n t h:=(rfl)
theorem afG (id:Nat) (B:St->Prop):fQ P id (.lp B::k) Q n t h=fQ P id k Q n t h:=(rfl)
theorem Nu (id:Nat) (c:SCode):go P (.code (.block id c)::k) Q n t h=go P (.code c:: .blk id::k) Q n t h:=by
 simp only [go,jv,lu]
 congr 1
 funext e s
 cases e<;>try rfl
 rename_i i
 simp only [GZ,jv.fQ]
 by_cases hi:i=id
 ·simp [hi]
 ·have:¬ id=i:=fun h=>hi h.symm
  simp [hi,this]
theorem go_region (ops:List SOper):go P (.code (.region ops false)::k) Q n t h=go P (.ops n (n+8*ops.length) ops::k) Q n t h:=by
 simp [go,jv,lu]
theorem afH (c:Operand) (x y:SCode):go P (.code (.cond c x y)::k) Q n t h=wV P (ev t c) x y k Q n t h:=(rfl)
theorem afI (x y:SCode):wV P (some (.v (.bool true))) x y k Q n t h=go P (.code x::k) Q n t h:=by simp [wV,qo,AZ]
theorem afJ (x y:SCode):wV P (some (.v (.bool false))) x y k Q n t h=go P (.code y::k) Q n t h:=by simp [wV,qo,A7]
theorem mE {b:Bool} {x y:SCode} (h1:b=true->go P (.code x::k) Q n t h) (h2:b=false->go P (.code y::k) Q n t h):wV P (some (.v (.bool b))) x y k Q n t h:=⟨h1,h2⟩
theorem afK (nm n':Nat):go P (.ops nm n' []::k) Q n t h=go P k Q n' t h:=(rfl)
theorem afL (d:Option Nat) (x:Operand) (af:List Nat) (nm n':Nat) (l:List SOper):go P (.ops nm n' (⟨d,.jL x,none,af⟩::l)::k) Q n t h=cZ P (av nm t h (.jL x)) (.jL x) d nm n' l k Q n t h:=(rfl)
theorem afM (d:Option Nat) (c a b:Operand) (af:List Nat) (nm n':Nat) (l:List SOper):go P (.ops nm n' (⟨d,.pick c a b,none,af⟩::l)::k) Q n t h=cZ P (av nm t h (.pick c a b)) (.pick c a b) d nm n' l k Q n t h:=(rfl)
theorem afN (d:Option Nat) (zs:List Value) (af:List Nat) (nm n':Nat) (l:List SOper):go P (.ops nm n' (⟨d,.alloc zs,none,af⟩::l)::k) Q n t h=cZ P (av nm t h (.alloc zs)) (.alloc zs) d nm n' l k Q n t h:=(rfl)
theorem afO (d:Option Nat) (x:Operand) (af:List Nat) (nm n':Nat) (l:List SOper):go P (.ops nm n' (⟨d,.box x,none,af⟩::l)::k) Q n t h=cZ P (av nm t h (.box x)) (.box x) d nm n' l k Q n t h:=(rfl)
theorem afP (d:Option Nat) (zs:List Value) (parts:List (Nat×Nat×Operand)) (af:List Nat) (nm n':Nat) (l:List SOper):go P (.ops nm n' (⟨d,.build zs parts,none,af⟩::l)::k) Q n t h=cZ P (av nm t h (.build zs parts)) (.build zs parts) d nm n' l k Q n t h:=(rfl)
theorem afQ (d:Option Nat) (e:TypeId) (sz:Nat) (zs:List Value) (len:Nat) (parts:List (Nat×Operand)) (af:List Nat) (nm n':Nat) (l:List SOper):go P (.ops nm n' (⟨d,.iJ e sz zs len parts,none,af⟩::l)::k) Q n t h=cZ P (av nm t h (.iJ e sz zs len parts)) (.iJ e sz zs len parts) d nm n' l k Q n t h:=(rfl)
theorem afR (d:Option Nat) (ag:Bool) (sz:Nat) (x:Operand) (af:List Nat) (nm n':Nat) (l:List SOper):go P (.ops nm n' (⟨d,.load ag sz x,none,af⟩::l)::k) Q n t h=cZ P (av nm t h (.load ag sz x)) (.load ag sz x) d nm n' l k Q n t h:=(rfl)
theorem afS (d:Option Nat) (sz:Nat) (x y:Operand) (af:List Nat) (nm n':Nat) (l:List SOper):go P (.ops nm n' (⟨d,.store sz x y,none,af⟩::l)::k) Q n t h=cZ P (av nm t h (.store sz x y)) (.store sz x y) d nm n' l k Q n t h:=(rfl)
theorem afT (d:Option Nat) (x:Operand) (af:List Nat) (nm n':Nat) (l:List SOper):go P (.ops nm n' (⟨d,.jM x,none,af⟩::l)::k) Q n t h=cZ P (av nm t h (.jM x)) (.jM x) d nm n' l k Q n t h:=(rfl)
theorem afU (d:Option Nat) (op:BinOp) (x y:Operand) (af:List Nat) (nm n':Nat) (l:List SOper):go P (.ops nm n' (⟨d,.bin op x y,none,af⟩::l)::k) Q n t h=cZ P (av nm t h (.bin op x y)) (.bin op x y) d nm n' l k Q n t h:=(rfl)
theorem afV (d:Option Nat) (neg:Bool) (ks:List Nat) (x y:Operand) (af:List Nat) (nm n':Nat) (l:List SOper):go P (.ops nm n' (⟨d,.eqs neg ks x y,none,af⟩::l)::k) Q n t h=cZ P (av nm t h (.eqs neg ks x y)) (.eqs neg ks x y) d nm n' l k Q n t h:=(rfl)
theorem afW (d:Option Nat) (op:UnOp) (x:Operand) (af:List Nat) (nm n':Nat) (l:List SOper):go P (.ops nm n' (⟨d,.un op x,none,af⟩::l)::k) Q n t h=cZ P (av nm t h (.un op x)) (.un op x) d nm n' l k Q n t h:=(rfl)
theorem afX (d:Option Nat) (q:IntKind) (x:Operand) (af:List Nat) (nm n':Nat) (l:List SOper):go P (.ops nm n' (⟨d,.conv q x,none,af⟩::l)::k) Q n t h=cZ P (av nm t h (.conv q x)) (.conv q x) d nm n' l k Q n t h:=(rfl)
theorem afY (d:Option Nat) (e:TypeId) (x:Operand) (af:List Nat) (nm n':Nat) (l:List SOper):go P (.ops nm n' (⟨d,.rZ e x,none,af⟩::l)::k) Q n t h=cZ P (av nm t h (.rZ e x)) (.rZ e x) d nm n' l k Q n t h:=(rfl)
theorem afZ (d:Option Nat) (x:Operand) (af:List Nat) (nm n':Nat) (l:List SOper):go P (.ops nm n' (⟨d,.lg x,none,af⟩::l)::k) Q n t h=cZ P (av nm t h (.lg x)) (.lg x) d nm n' l k Q n t h:=(rfl)
theorem af0 (d:Option Nat) (f:FuncId) (caps:List Operand) (af:List Nat) (nm n':Nat) (l:List SOper):go P (.ops nm n' (⟨d,.nJ f caps,none,af⟩::l)::k) Q n t h=cZ P (av nm t h (.nJ f caps)) (.nJ f caps) d nm n' l k Q n t h:=(rfl)
theorem af2 (d:Option Nat) (af:List Nat) (nm n':Nat) (l:List SOper):go P (.ops nm n' (⟨d,.oN,none,af⟩::l)::k) Q n t h=cZ P (av nm t h (.oN)) (.oN) d nm n' l k Q n t h:=(rfl)
theorem af3 (d:Option Nat) (z:Value) (m x:Operand) (af:List Nat) (nm n':Nat) (l:List SOper):go P (.ops nm n' (⟨d,.look z m x,none,af⟩::l)::k) Q n t h=cZ P (av nm t h (.look z m x)) (.look z m x) d nm n' l k Q n t h:=(rfl)
theorem af4 (d:Option Nat) (m x y:Operand) (af:List Nat) (nm n':Nat) (l:List SOper):go P (.ops nm n' (⟨d,.jO m x y,none,af⟩::l)::k) Q n t h=cZ P (av nm t h (.jO m x y)) (.jO m x y) d nm n' l k Q n t h:=(rfl)
theorem af5 (d:Option Nat) (e:TypeId) (sz bytes:Nat) (zs:List Value) (a c:Operand) (af:List Nat) (nm n':Nat) (l:List SOper):go P (.ops nm n' (⟨d,.lX e sz bytes zs a c,none,af⟩::l)::k) Q n t h=cZ P (av nm t h (.lX e sz bytes zs a c)) (.lX e sz bytes zs a c) d nm n' l k Q n t h:=(rfl)
theorem af6 (d:Option Nat) (sz:Nat) (x:Operand) (lo hi mx:Option Operand) (af:List Nat) (nm n':Nat) (l:List SOper):go P (.ops nm n' (⟨d,.slice sz x lo hi mx,none,af⟩::l)::k) Q n t h=cZ P (av nm t h (.slice sz x lo hi mx)) (.slice sz x lo hi mx) d nm n' l k Q n t h:=(rfl)
theorem af7 (d:Option Nat) (x:Operand) (lo hi:Option Operand) (af:List Nat) (nm n':Nat) (l:List SOper):go P (.ops nm n' (⟨d,.nK x lo hi,none,af⟩::l)::k) Q n t h=cZ P (av nm t h (.nK x lo hi)) (.nK x lo hi) d nm n' l k Q n t h:=(rfl)
theorem af8 (d:Option Nat) (off:Nat) (x:Operand) (af:List Nat) (nm n':Nat) (l:List SOper):go P (.ops nm n' (⟨d,.jP off x,none,af⟩::l)::k) Q n t h=cZ P (av nm t h (.jP off x)) (.jP off x) d nm n' l k Q n t h:=(rfl)
theorem af9 (d:Option Nat) (ag:Bool) (off sz:Nat) (x:Operand) (af:List Nat) (nm n':Nat) (l:List SOper):go P (.ops nm n' (⟨d,.nL ag off sz x,none,af⟩::l)::k) Q n t h=cZ P (av nm t h (.nL ag off sz x)) (.nL ag off sz x) d nm n' l k Q n t h:=(rfl)
theorem aga (d:Option Nat) (sz:Nat) (x i:Operand) (af:List Nat) (nm n':Nat) (l:List SOper):go P (.ops nm n' (⟨d,.lY sz x i,none,af⟩::l)::k) Q n t h=cZ P (av nm t h (.lY sz x i)) (.lY sz x i) d nm n' l k Q n t h:=(rfl)
theorem agb (d:Option Nat) (len sz:Nat) (x i:Operand) (af:List Nat) (nm n':Nat) (l:List SOper):go P (.ops nm n' (⟨d,.lZ len sz x i,none,af⟩::l)::k) Q n t h=cZ P (av nm t h (.lZ len sz x i)) (.lZ len sz x i) d nm n' l k Q n t h:=(rfl)
theorem agc (d:Option Nat) (ag:Bool) (len sz:Nat) (x i:Operand) (af:List Nat) (nm n':Nat) (l:List SOper):go P (.ops nm n' (⟨d,.idx ag len sz x i,none,af⟩::l)::k) Q n t h=cZ P (av nm t h (.idx ag len sz x i)) (.idx ag len sz x i) d nm n' l k Q n t h:=(rfl)
theorem agd (d:Option Nat) (x i:Operand) (af:List Nat) (nm n':Nat) (l:List SOper):go P (.ops nm n' (⟨d,.idxs x i,none,af⟩::l)::k) Q n t h=cZ P (av nm t h (.idxs x i)) (.idxs x i) d nm n' l k Q n t h:=(rfl)
theorem agf (d:Option Nat) (x:Operand) (af:List Nat) (nm n':Nat) (l:List SOper):go P (.ops nm n' (⟨d,.len x,none,af⟩::l)::k) Q n t h=cZ P (av nm t h (.len x)) (.len x) d nm n' l k Q n t h:=(rfl)
theorem agh (d:Option Nat) (x:Operand) (af:List Nat) (nm n':Nat) (l:List SOper):go P (.ops nm n' (⟨d,.cap x,none,af⟩::l)::k) Q n t h=cZ P (av nm t h (.cap x)) (.cap x) d nm n' l k Q n t h:=(rfl)
theorem agi (d:Option Nat) (e:TypeId) (sz bytes:Nat) (zs:List Value) (x y:Operand) (af:List Nat) (nm n':Nat) (l:List SOper):go P (.ops nm n' (⟨d,.app e sz bytes zs x y,none,af⟩::l)::k) Q n t h=cZ P (av nm t h (.app e sz bytes zs x y)) (.app e sz bytes zs x y) d nm n' l k Q n t h:=(rfl)
theorem agj (d:Option Nat) (sz:Nat) (zs:List Value) (x:Operand) (af:List Nat) (nm n':Nat) (l:List SOper):go P (.ops nm n' (⟨d,.lq sz zs x,none,af⟩::l)::k) Q n t h=cZ P (av nm t h (.lq sz zs x)) (.lq sz zs x) d nm n' l k Q n t h:=(rfl)
theorem agk (d:Option Nat) (sz:Nat) (x y:Operand) (af:List Nat) (nm n':Nat) (l:List SOper):go P (.ops nm n' (⟨d,.copy sz x y,none,af⟩::l)::k) Q n t h=cZ P (av nm t h (.copy sz x y)) (.copy sz x y) d nm n' l k Q n t h:=(rfl)
theorem agl (d:Option Nat) (i:Nat) (x:Operand) (af:List Nat) (nm n':Nat) (l:List SOper):go P (.ops nm n' (⟨d,.ext i x,none,af⟩::l)::k) Q n t h=cZ P (av nm t h (.ext i x)) (.ext i x) d nm n' l k Q n t h:=(rfl)
theorem agm (d:Option Nat) (mx:Bool) (xs:List Operand) (af:List Nat) (nm n':Nat) (l:List SOper):go P (.ops nm n' (⟨d,.l5 mx xs,none,af⟩::l)::k) Q n t h=cZ P (av nm t h (.l5 mx xs)) (.l5 mx xs) d nm n' l k Q n t h:=(rfl)
theorem agn (d:Option Nat) (neg:Bool) (x:Operand) (af:List Nat) (nm n':Nat) (l:List SOper):go P (.ops nm n' (⟨d,.oM neg x,none,af⟩::l)::k) Q n t h=II P (wD (ev t x)) neg d nm n' l k Q n t h:=(rfl)
theorem agp (b neg:Bool) (d:Option Nat) (nm n':Nat) (l:List SOper):II P (some (some b)) neg d nm n' l k Q n t h=go P (.ops (nm+8) n' l::k) Q n (aZ t d (.v (.bool (if neg then !b else b)))) h:=(rfl)
theorem agq (neg:Bool) (d:Option Nat) (nm n':Nat) (l:List SOper):II P (some none) neg d nm n' l k Q n t h=
 (go P (.ops (nm+8) n' l::k) Q n (aZ t d (.v (.bool (if neg then !true else true)))) h/\go P (.ops (nm+8) n' l::k) Q n (aZ t d (.v (.bool (if neg then !false else false)))) h):=(rfl)
theorem agr (d:Option Nat) (e:TypeId) (sz bytes:Nat) (zs:List Value) (x y:Operand) (af:List Nat) (nm n':Nat) (l:List SOper):go P (.ops nm n' (⟨d,.lm e sz bytes zs x y,none,af⟩::l)::k) Q n t h=cZ P (av nm t h (.lm e sz bytes zs x y)) (.lm e sz bytes zs x y) d nm n' l k Q n t h:=(rfl)
theorem ags (d:Option Nat) (neg:Bool) (x y:Operand) (af:List Nat) (nm n':Nat) (l:List SOper):go P (.ops nm n' (⟨d,.jN neg x y,none,af⟩::l)::k) Q n t h=cZ P (av nm t h (.jN neg x y)) (.jN neg x y) d nm n' l k Q n t h:=(rfl)
theorem agt (d:Option Nat) (x:Operand) (af:List Nat) (nm n':Nat) (l:List SOper):go P (.ops nm n' (⟨d,.nM x,none,af⟩::l)::k) Q n t h=cZ P (av nm t h (.nM x)) (.nM x) d nm n' l k Q n t h:=(rfl)
theorem go_call (d:Option Nat) (f:Operand) (args:List Operand) (af:List Nat) (nm n':Nat) (l:List SOper):
 go P (.ops nm n' (⟨d,.call f args,none,af⟩::l)::k) Q n t h=goC P (ev t f) (kN t args) d nm n' l k Q n t h:=(rfl)
theorem agu (d:Option Nat) (op:SOp) (g:Nat) (w:Bool) (af:List Nat) (nm n':Nat) (l:List SOper):
  go P (.ops nm n' (⟨d,op,some (g,w),af⟩::l)::k) Q n t h=mD P (get t g) ⟨d,op,none,af⟩ w nm n' l k Q n t h:=by
 cases w<;>rfl
theorem agv (e:E) (op:SOp) (d:Option Nat) (nm n':Nat) (l:List SOper):
 cZ P (some e) op d nm n' l k Q n t h=(e.pre/\go P (.ops (nm+8) n' l::k) Q n (aZ t d e.val) (e.upd++h)):=(rfl)
theorem agw (g:FuncId) (caps xs:List AV) (d:Option Nat) (nm n':Nat) (l:List SOper):
 goC P (some (.fn g caps)) (some xs) d nm n' l k Q n t h=if g<1000000 then wW P nm g (xs++caps) d n' l k Q n t h else if g<2000000 then wW P nm (g - 1000000) (caps++xs) d n' l k Q n t h else False:=(rfl)
theorem agx (o:SOper) (w:Bool) (nm n':Nat) (l:List SOper):
 mD P (some (.v undef)) o w nm n' l k Q n t h=go P (.ops (nm+8) n' l::k) Q n (aZ t o.dst (.v undef)) h:=(rfl)
theorem agy (o:SOper) (nm n':Nat) (l:List SOper):
 mD P (some (.v (.bool true))) o true nm n' l k Q n t h=go P (.ops nm n' ({o with guard:=none}::l)::k) Q n t h:=by simp [mD,qo,AZ]
theorem agz (o:SOper) (nm n':Nat) (l:List SOper):
 mD P (some (.v (.bool true))) o false nm n' l k Q n t h=go P (.ops (nm+8) n' l::k) Q n (aZ t o.dst (.v undef)) h:=by simp [mD,qo,AZ]
theorem agA (o:SOper) (nm n':Nat) (l:List SOper):
 mD P (some (.v (.bool false))) o true nm n' l k Q n t h=go P (.ops (nm+8) n' l::k) Q n (aZ t o.dst (.v undef)) h:=by simp [mD,qo,A7]
theorem agB (o:SOper) (nm n':Nat) (l:List SOper):
 mD P (some (.v (.bool false))) o false nm n' l k Q n t h=go P (.ops nm n' ({o with guard:=none}::l)::k) Q n t h:=by simp [mD,qo,A7]
theorem IK {b:Bool} {o:SOper} {w:Bool} {nm n':Nat} {l:List SOper}
  (h1:b=true->mD P (some (.v (.bool true))) o w nm n' l k Q n t h) (h2:b=false->mD P (some (.v (.bool false))) o w nm n' l k Q n t h):
  mD P (some (.v (.bool b))) o w nm n' l k Q n t h:=by
 cases b
 ·exact h2 rfl
 ·exact h1 rfl
theorem agC (d:Option Nat) (x:Operand) (af:List Nat) (nm n':Nat) (l ops:List SOper) (acc:List aR):go P (.aS nm n' (⟨d,.jL x,none,af⟩::l) ops acc::k) Q n t h=dh P (av nm t h (.jL x)) (bR t (.jL x)) d nm n' l ops acc k Q n t h:=(rfl)
theorem agD (d:Option Nat) (c a b:Operand) (af:List Nat) (nm n':Nat) (l ops:List SOper) (acc:List aR):go P (.aS nm n' (⟨d,.pick c a b,none,af⟩::l) ops acc::k) Q n t h=dh P (av nm t h (.pick c a b)) (bR t (.pick c a b)) d nm n' l ops acc k Q n t h:=(rfl)
theorem agE (d:Option Nat) (zs:List Value) (af:List Nat) (nm n':Nat) (l ops:List SOper) (acc:List aR):go P (.aS nm n' (⟨d,.alloc zs,none,af⟩::l) ops acc::k) Q n t h=dh P (av nm t h (.alloc zs)) (bR t (.alloc zs)) d nm n' l ops acc k Q n t h:=(rfl)
theorem agF (d:Option Nat) (x:Operand) (af:List Nat) (nm n':Nat) (l ops:List SOper) (acc:List aR):go P (.aS nm n' (⟨d,.box x,none,af⟩::l) ops acc::k) Q n t h=dh P (av nm t h (.box x)) (bR t (.box x)) d nm n' l ops acc k Q n t h:=(rfl)
theorem agG (d:Option Nat) (zs:List Value) (parts:List (Nat×Nat×Operand)) (af:List Nat) (nm n':Nat) (l ops:List SOper) (acc:List aR):go P (.aS nm n' (⟨d,.build zs parts,none,af⟩::l) ops acc::k) Q n t h=dh P (av nm t h (.build zs parts)) (bR t (.build zs parts)) d nm n' l ops acc k Q n t h:=(rfl)
theorem agH (d:Option Nat) (e:TypeId) (sz:Nat) (zs:List Value) (len:Nat) (parts:List (Nat×Operand)) (af:List Nat) (nm n':Nat) (l ops:List SOper) (acc:List aR):go P (.aS nm n' (⟨d,.iJ e sz zs len parts,none,af⟩::l) ops acc::k) Q n t h=dh P (av nm t h (.iJ e sz zs len parts)) (bR t (.iJ e sz zs len parts)) d nm n' l ops acc k Q n t h:=(rfl)
theorem agI (d:Option Nat) (ag:Bool) (sz:Nat) (x:Operand) (af:List Nat) (nm n':Nat) (l ops:List SOper) (acc:List aR):go P (.aS nm n' (⟨d,.load ag sz x,none,af⟩::l) ops acc::k) Q n t h=dh P (av nm t h (.load ag sz x)) (bR t (.load ag sz x)) d nm n' l ops acc k Q n t h:=(rfl)
theorem agJ (d:Option Nat) (sz:Nat) (x y:Operand) (af:List Nat) (nm n':Nat) (l ops:List SOper) (acc:List aR):go P (.aS nm n' (⟨d,.store sz x y,none,af⟩::l) ops acc::k) Q n t h=dh P (av nm t h (.store sz x y)) (bR t (.store sz x y)) d nm n' l ops acc k Q n t h:=(rfl)
theorem agK (d:Option Nat) (x:Operand) (af:List Nat) (nm n':Nat) (l ops:List SOper) (acc:List aR):go P (.aS nm n' (⟨d,.jM x,none,af⟩::l) ops acc::k) Q n t h=dh P (av nm t h (.jM x)) (bR t (.jM x)) d nm n' l ops acc k Q n t h:=(rfl)
theorem agL (d:Option Nat) (op:BinOp) (x y:Operand) (af:List Nat) (nm n':Nat) (l ops:List SOper) (acc:List aR):go P (.aS nm n' (⟨d,.bin op x y,none,af⟩::l) ops acc::k) Q n t h=dh P (av nm t h (.bin op x y)) (bR t (.bin op x y)) d nm n' l ops acc k Q n t h:=(rfl)
theorem agM (d:Option Nat) (neg:Bool) (ks:List Nat) (x y:Operand) (af:List Nat) (nm n':Nat) (l ops:List SOper) (acc:List aR):go P (.aS nm n' (⟨d,.eqs neg ks x y,none,af⟩::l) ops acc::k) Q n t h=dh P (av nm t h (.eqs neg ks x y)) (bR t (.eqs neg ks x y)) d nm n' l ops acc k Q n t h:=(rfl)
theorem agN (d:Option Nat) (op:UnOp) (x:Operand) (af:List Nat) (nm n':Nat) (l ops:List SOper) (acc:List aR):go P (.aS nm n' (⟨d,.un op x,none,af⟩::l) ops acc::k) Q n t h=dh P (av nm t h (.un op x)) (bR t (.un op x)) d nm n' l ops acc k Q n t h:=(rfl)
theorem agO (d:Option Nat) (q:IntKind) (x:Operand) (af:List Nat) (nm n':Nat) (l ops:List SOper) (acc:List aR):go P (.aS nm n' (⟨d,.conv q x,none,af⟩::l) ops acc::k) Q n t h=dh P (av nm t h (.conv q x)) (bR t (.conv q x)) d nm n' l ops acc k Q n t h:=(rfl)
theorem agP (d:Option Nat) (e:TypeId) (x:Operand) (af:List Nat) (nm n':Nat) (l ops:List SOper) (acc:List aR):go P (.aS nm n' (⟨d,.rZ e x,none,af⟩::l) ops acc::k) Q n t h=dh P (av nm t h (.rZ e x)) (bR t (.rZ e x)) d nm n' l ops acc k Q n t h:=(rfl)
theorem agQ (d:Option Nat) (x:Operand) (af:List Nat) (nm n':Nat) (l ops:List SOper) (acc:List aR):go P (.aS nm n' (⟨d,.lg x,none,af⟩::l) ops acc::k) Q n t h=dh P (av nm t h (.lg x)) (bR t (.lg x)) d nm n' l ops acc k Q n t h:=(rfl)
theorem agR (d:Option Nat) (f:FuncId) (caps:List Operand) (af:List Nat) (nm n':Nat) (l ops:List SOper) (acc:List aR):go P (.aS nm n' (⟨d,.nJ f caps,none,af⟩::l) ops acc::k) Q n t h=dh P (av nm t h (.nJ f caps)) (bR t (.nJ f caps)) d nm n' l ops acc k Q n t h:=(rfl)
theorem agS (d:Option Nat) (af:List Nat) (nm n':Nat) (l ops:List SOper) (acc:List aR):go P (.aS nm n' (⟨d,.oN,none,af⟩::l) ops acc::k) Q n t h=dh P (av nm t h (.oN)) (bR t (.oN)) d nm n' l ops acc k Q n t h:=(rfl)
theorem agT (d:Option Nat) (z:Value) (m x:Operand) (af:List Nat) (nm n':Nat) (l ops:List SOper) (acc:List aR):go P (.aS nm n' (⟨d,.look z m x,none,af⟩::l) ops acc::k) Q n t h=dh P (av nm t h (.look z m x)) (bR t (.look z m x)) d nm n' l ops acc k Q n t h:=(rfl)
theorem agU (d:Option Nat) (m x y:Operand) (af:List Nat) (nm n':Nat) (l ops:List SOper) (acc:List aR):go P (.aS nm n' (⟨d,.jO m x y,none,af⟩::l) ops acc::k) Q n t h=dh P (av nm t h (.jO m x y)) (bR t (.jO m x y)) d nm n' l ops acc k Q n t h:=(rfl)
theorem agV (d:Option Nat) (e:TypeId) (sz bytes:Nat) (zs:List Value) (a c:Operand) (af:List Nat) (nm n':Nat) (l ops:List SOper) (acc:List aR):go P (.aS nm n' (⟨d,.lX e sz bytes zs a c,none,af⟩::l) ops acc::k) Q n t h=dh P (av nm t h (.lX e sz bytes zs a c)) (bR t (.lX e sz bytes zs a c)) d nm n' l ops acc k Q n t h:=(rfl)
theorem agW (d:Option Nat) (sz:Nat) (x:Operand) (lo hi mx:Option Operand) (af:List Nat) (nm n':Nat) (l ops:List SOper) (acc:List aR):go P (.aS nm n' (⟨d,.slice sz x lo hi mx,none,af⟩::l) ops acc::k) Q n t h=dh P (av nm t h (.slice sz x lo hi mx)) (bR t (.slice sz x lo hi mx)) d nm n' l ops acc k Q n t h:=(rfl)
theorem agX (d:Option Nat) (x:Operand) (lo hi:Option Operand) (af:List Nat) (nm n':Nat) (l ops:List SOper) (acc:List aR):go P (.aS nm n' (⟨d,.nK x lo hi,none,af⟩::l) ops acc::k) Q n t h=dh P (av nm t h (.nK x lo hi)) (bR t (.nK x lo hi)) d nm n' l ops acc k Q n t h:=(rfl)
theorem agY (d:Option Nat) (off:Nat) (x:Operand) (af:List Nat) (nm n':Nat) (l ops:List SOper) (acc:List aR):go P (.aS nm n' (⟨d,.jP off x,none,af⟩::l) ops acc::k) Q n t h=dh P (av nm t h (.jP off x)) (bR t (.jP off x)) d nm n' l ops acc k Q n t h:=(rfl)
theorem agZ (d:Option Nat) (ag:Bool) (off sz:Nat) (x:Operand) (af:List Nat) (nm n':Nat) (l ops:List SOper) (acc:List aR):go P (.aS nm n' (⟨d,.nL ag off sz x,none,af⟩::l) ops acc::k) Q n t h=dh P (av nm t h (.nL ag off sz x)) (bR t (.nL ag off sz x)) d nm n' l ops acc k Q n t h:=(rfl)
theorem ag0 (d:Option Nat) (sz:Nat) (x i:Operand) (af:List Nat) (nm n':Nat) (l ops:List SOper) (acc:List aR):go P (.aS nm n' (⟨d,.lY sz x i,none,af⟩::l) ops acc::k) Q n t h=dh P (av nm t h (.lY sz x i)) (bR t (.lY sz x i)) d nm n' l ops acc k Q n t h:=(rfl)
theorem ag1 (d:Option Nat) (len sz:Nat) (x i:Operand) (af:List Nat) (nm n':Nat) (l ops:List SOper) (acc:List aR):go P (.aS nm n' (⟨d,.lZ len sz x i,none,af⟩::l) ops acc::k) Q n t h=dh P (av nm t h (.lZ len sz x i)) (bR t (.lZ len sz x i)) d nm n' l ops acc k Q n t h:=(rfl)
theorem ag2 (d:Option Nat) (ag:Bool) (len sz:Nat) (x i:Operand) (af:List Nat) (nm n':Nat) (l ops:List SOper) (acc:List aR):go P (.aS nm n' (⟨d,.idx ag len sz x i,none,af⟩::l) ops acc::k) Q n t h=dh P (av nm t h (.idx ag len sz x i)) (bR t (.idx ag len sz x i)) d nm n' l ops acc k Q n t h:=(rfl)
theorem ag6 (d:Option Nat) (x i:Operand) (af:List Nat) (nm n':Nat) (l ops:List SOper) (acc:List aR):go P (.aS nm n' (⟨d,.idxs x i,none,af⟩::l) ops acc::k) Q n t h=dh P (av nm t h (.idxs x i)) (bR t (.idxs x i)) d nm n' l ops acc k Q n t h:=(rfl)
theorem ag7 (d:Option Nat) (x:Operand) (af:List Nat) (nm n':Nat) (l ops:List SOper) (acc:List aR):go P (.aS nm n' (⟨d,.len x,none,af⟩::l) ops acc::k) Q n t h=dh P (av nm t h (.len x)) (bR t (.len x)) d nm n' l ops acc k Q n t h:=(rfl)
theorem ag8 (d:Option Nat) (x:Operand) (af:List Nat) (nm n':Nat) (l ops:List SOper) (acc:List aR):go P (.aS nm n' (⟨d,.cap x,none,af⟩::l) ops acc::k) Q n t h=dh P (av nm t h (.cap x)) (bR t (.cap x)) d nm n' l ops acc k Q n t h:=(rfl)
theorem aha (d:Option Nat) (e:TypeId) (sz bytes:Nat) (zs:List Value) (x y:Operand) (af:List Nat) (nm n':Nat) (l ops:List SOper) (acc:List aR):go P (.aS nm n' (⟨d,.app e sz bytes zs x y,none,af⟩::l) ops acc::k) Q n t h=dh P (av nm t h (.app e sz bytes zs x y)) (bR t (.app e sz bytes zs x y)) d nm n' l ops acc k Q n t h:=(rfl)
theorem ahb (d:Option Nat) (sz:Nat) (zs:List Value) (x:Operand) (af:List Nat) (nm n':Nat) (l ops:List SOper) (acc:List aR):go P (.aS nm n' (⟨d,.lq sz zs x,none,af⟩::l) ops acc::k) Q n t h=dh P (av nm t h (.lq sz zs x)) (bR t (.lq sz zs x)) d nm n' l ops acc k Q n t h:=(rfl)
theorem ahc (d:Option Nat) (sz:Nat) (x y:Operand) (af:List Nat) (nm n':Nat) (l ops:List SOper) (acc:List aR):go P (.aS nm n' (⟨d,.copy sz x y,none,af⟩::l) ops acc::k) Q n t h=dh P (av nm t h (.copy sz x y)) (bR t (.copy sz x y)) d nm n' l ops acc k Q n t h:=(rfl)
theorem ahd (d:Option Nat) (i:Nat) (x:Operand) (af:List Nat) (nm n':Nat) (l ops:List SOper) (acc:List aR):go P (.aS nm n' (⟨d,.ext i x,none,af⟩::l) ops acc::k) Q n t h=dh P (av nm t h (.ext i x)) (bR t (.ext i x)) d nm n' l ops acc k Q n t h:=(rfl)
theorem ahe (d:Option Nat) (mx:Bool) (xs:List Operand) (af:List Nat) (nm n':Nat) (l ops:List SOper) (acc:List aR):go P (.aS nm n' (⟨d,.l5 mx xs,none,af⟩::l) ops acc::k) Q n t h=dh P (av nm t h (.l5 mx xs)) (bR t (.l5 mx xs)) d nm n' l ops acc k Q n t h:=(rfl)
theorem ahf (d:Option Nat) (e:TypeId) (sz bytes:Nat) (zs:List Value) (x y:Operand) (af:List Nat) (nm n':Nat) (l ops:List SOper) (acc:List aR):go P (.aS nm n' (⟨d,.lm e sz bytes zs x y,none,af⟩::l) ops acc::k) Q n t h=dh P (av nm t h (.lm e sz bytes zs x y)) (bR t (.lm e sz bytes zs x y)) d nm n' l ops acc k Q n t h:=(rfl)
theorem ahg (d:Option Nat) (neg:Bool) (x y:Operand) (af:List Nat) (nm n':Nat) (l ops:List SOper) (acc:List aR):go P (.aS nm n' (⟨d,.jN neg x y,none,af⟩::l) ops acc::k) Q n t h=dh P (av nm t h (.jN neg x y)) (bR t (.jN neg x y)) d nm n' l ops acc k Q n t h:=(rfl)
theorem ahh (d:Option Nat) (x:Operand) (af:List Nat) (nm n':Nat) (l ops:List SOper) (acc:List aR):go P (.aS nm n' (⟨d,.nM x,none,af⟩::l) ops acc::k) Q n t h=dh P (av nm t h (.nM x)) (bR t (.nM x)) d nm n' l ops acc k Q n t h:=(rfl)
theorem ahi (id nm n':Nat) (l ops:List SOper) (acc:List aR):fQ P id (.aS nm n' l ops acc::k) Q n t h=fQ P id k Q n t h:=(rfl)
theorem ahj (ops:List SOper):go P (.code (.region ops true)::k) Q n t h=go P (.aS n (n+8*ops.length) ops ops []::k) Q n t h:=by
 simp [go,jv,lu,GX]
theorem ahk (nm n':Nat) (ops:List SOper) (acc:List aR):go P (.aS nm n' [] ops acc::k) Q n t h=(iL ops acc.reverse=true/\go P k Q n' t h):=(rfl)
theorem ahl (e:E) (rd:List Nat) (d:Option Nat) (nm n':Nat) (l ops:List SOper) (acc:List aR):
 dh P (some e) rd d nm n' l ops acc k Q n t h=(e.pre/\go P (.aS (nm+8) n' l ops ((rd,e.upd.map Prod.fst)::acc)::k) Q n (aZ t d e.val) (e.upd++h)):=(rfl)
theorem ahm (d:Option Nat) (f:Operand) (args:List Operand) (af:List Nat) (nm n':Nat) (l ops:List SOper) (acc:List aR):
 go P (.aS nm n' (⟨d,.call f args,none,af⟩::l) ops acc::k) Q n t h=Ns P (ev t f) (kN t args) d nm n' l ops acc k Q n t h:=(rfl)
theorem ahn (g:FuncId) (caps xs:List AV) (d:Option Nat) (nm n':Nat) (l ops:List SOper) (acc:List aR):
 Ns P (some (.fn g caps)) (some xs) d nm n' l ops acc k Q n t h=if g<1000000 then BB P nm g (xs++caps) d n' l ops acc k Q n t h else if g<2000000 then BB P nm (g - 1000000) (caps++xs) d n' l ops acc k Q n t h else False:=(rfl)
theorem aho (d:Option Nat) (neg:Bool) (x:Operand) (af:List Nat) (nm n':Nat) (l ops:List SOper) (acc:List aR):
 go P (.aS nm n' (⟨d,.oM neg x,none,af⟩::l) ops acc::k) Q n t h=Nt P (wD (ev t x)) neg d nm n' l ops acc k Q n t h:=(rfl)
theorem ahp (b neg:Bool) (d:Option Nat) (nm n':Nat) (l ops:List SOper) (acc:List aR):Nt P (some (some b)) neg d nm n' l ops acc k Q n t h=
 go P (.aS (nm+8) n' l ops (([],[])::acc)::k) Q n (aZ t d (.v (.bool (if neg then !b else b)))) h:=(rfl)
theorem ahq (d:Option Nat) (op:SOp) (g:Nat) (w:Bool) (af:List Nat) (nm n':Nat) (l ops:List SOper) (acc:List aR):
  go P (.aS nm n' (⟨d,op,some (g,w),af⟩::l) ops acc::k) Q n t h=qy P (get t g) ⟨d,op,none,af⟩ w nm n' l ops acc k Q n t h:=by
 cases w<;>rfl
theorem ahr (o:SOper) (w:Bool) (nm n':Nat) (l ops:List SOper) (acc:List aR):
 qy P (some (.v undef)) o w nm n' l ops acc k Q n t h=go P (.aS (nm+8) n' l ops (([],[])::acc)::k) Q n (aZ t o.dst (.v undef)) h:=(rfl)
theorem ahs (o:SOper) (nm n':Nat) (l ops:List SOper) (acc:List aR):
 qy P (some (.v (.bool true))) o true nm n' l ops acc k Q n t h=go P (.aS nm n' ({o with guard:=none}::l) ops acc::k) Q n t h:=by simp [qy,qo,AZ]
theorem aht (o:SOper) (nm n':Nat) (l ops:List SOper) (acc:List aR):
 qy P (some (.v (.bool true))) o false nm n' l ops acc k Q n t h=go P (.aS (nm+8) n' l ops (([],[])::acc)::k) Q n (aZ t o.dst (.v undef)) h:=by simp [qy,qo,AZ]
theorem ahu (o:SOper) (nm n':Nat) (l ops:List SOper) (acc:List aR):
 qy P (some (.v (.bool false))) o true nm n' l ops acc k Q n t h=go P (.aS (nm+8) n' l ops (([],[])::acc)::k) Q n (aZ t o.dst (.v undef)) h:=by simp [qy,qo,A7]
theorem ahv (o:SOper) (nm n':Nat) (l ops:List SOper) (acc:List aR):
 qy P (some (.v (.bool false))) o false nm n' l ops acc k Q n t h=go P (.aS nm n' ({o with guard:=none}::l) ops acc::k) Q n t h:=by simp [qy,qo,A7]
theorem IL {f:FuncId} {args:List AV} {r:Rec} {d:Option Nat} {nm n':Nat} {l:List SOper} (hc:sw P nm f args h r) (hk:go P (.ops (nm+8) n' l::k) Q n (aZ t d r.val) (r.upd++h)):
 wW P nm f args d n' l k Q n t h:=hc h (fun _ _=>rfl) _ hk
theorem ahw {f:FuncId} {args:List AV} {r:Rec} {d:Option Nat} {nm n':Nat} {l ops:List SOper} {acc:List aR} (hc:sw P nm f args h r)
 (hk:go P (.aS (nm+8) n' l ops ((r.rd,r.upd.map Prod.fst)::acc)::k) Q n (aZ t d r.val) (r.upd++h)):BB P nm f args d n' l ops acc k Q n t h:=⟨r,hc,hk⟩
theorem go_loop {c:SCode} {α:Type} (S:α->St) (μ:α->Nat) (a0:α) (hw:Wk ⟨n,t,h⟩ (S a0))
  (hb:∀ a (B:St->Prop),(∀ s' a',μ a'<μ a->Wk s' (S a')->B s')->go P (.code c:: .lp B::k) Q (S a).n (S a).t (S a).h):
  go P (.code (.loop c)::k) Q n t h:=by
 refine ⟨α,S,μ,a0,hw,fun a=> ?_⟩
 have:=hb a (fun s'=>∃ a',μ a'<μ a/\Wk s' (S a')) (fun s' a' h1 h2=>⟨a',h1,h2⟩)
 simp only [go,jv] at this
 have e:(GY (fun s'=>∃ a',μ a'<μ a/\Wk s' (S a')) (fun e s'=>match e with
   | .normal=>jv P Q k s'
   | .exit id=>jv.fQ P Q id k s'
   |e=>Q e s'))=(fun e s'=>match e with
   | .normal=>∃ a',μ a'<μ a/\Wk s' (S a')
   | .exit id=>jv.fQ P Q id (.lp (fun s'=>∃ a',μ a'<μ a/\Wk s' (S a'))::k) s'
   |e=>Q e s'):=by
  funext e s'
  cases e<;>rfl
 rw [e]
 exact this
end eqs
end Go.Eng
