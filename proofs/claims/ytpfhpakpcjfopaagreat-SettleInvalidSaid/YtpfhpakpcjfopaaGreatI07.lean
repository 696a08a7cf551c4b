/-
  Part of a proof: lemmas and definitions of this work.
  No condition.
-/
import Derived.Test.YtpfhpakpcjfopaaGreatI06
import Derived.WalkSpells
set_option linter.all false
set_option maxRecDepth 100000
set_option maxHeartbeats 8000000
namespace Go.M
open Go
noncomputable section
variable [aY]
section
variable {P:Program} {fl:Nat} {o:Oper} {h:Hp}
theorem EK {k k0:IntKind} {src dst:TypeId} {a:Operand} {ev:Operand->Value} {q:IntKind} {n:Int} {w:World} (h1:P.underlying src=some (.int k0)) (h2:P.underlying dst=some (.int k))
  (ho:o.op= .convert src dst a) (hv:ev a= .int q n):(execOp ev o).run P w= .ok (.value (.int k (k.wrap n))) w:=by
 simp only [execOp,ho,hv,convert,Sem.run_bind,run_underlying h1,run_underlying h2,Result.andThen_ok,Conv.intToInt,Sem.run_pure]
theorem JY {k0 q:IntKind} {src dst:TypeId} {a:Operand} {x:X} (h1:P.underlying src=some (.int k0)) (h2:P.underlying dst=some (.int q)) (ho:o.op= .convert src dst a):
  eF P o [(a,x)] h (Ce q x):=fun k r e=>by
 rcases aF (show ah (rC x) (iU (JJ q x) h k) _=some r from e) with ⟨_,e0⟩|⟨_,e0⟩
 ·obtain ⟨c,qq,e1⟩:=tL e0
  refine ⟨c,_,e1,fun fl=> .fG,fun hf M fl w0 V w ev hm hd _=> ?_⟩
  obtain ⟨p,m,g1,g2⟩:JJ q x c:=hf _ (List.mem_cons_self ..)
  have hc:=jk g1 (hd (a,x) (by simp))
  rw [EK h1 h2 ho hc]
  exact ⟨_,w,V,.inl rfl,M.fG hm,xK g2 rfl,.refl ..⟩
 obtain ⟨u,hu,e1⟩:=rG e0
 split at e1
 ·rename_i q' m
  rw [xL] at e1
  refine ⟨_,h,e1,fun fl=> .refl _ _,fun _ M fl w0 V w ev hm hd _=> ?_⟩
  have hc:=jk hu (hd (a,x) (by simp))
  rw [EK h1 h2 ho hc]
  exact .pure hm (mR rfl)
 ·cases e1
theorem akh {k0:IntKind} {src dst:TypeId} {a:Operand} {x:X} (h1:P.underlying src=some (.int k0)) (h2:P.underlying dst=some (.int .i64)) (ho:o.op= .convert src dst a):
  eF P o [(a,x)] h (JK x):=fun k r e=>by
 have e':=e
 unfold JK at e'
 rw [fo] at e'
 rcases aF e' with ⟨t0,e1⟩|⟨_,e1⟩
 ·obtain ⟨t1,e2⟩:=aI e1
  refine ⟨_,h,e2,fun fl=> .refl _ _,fun _ M fl w0 V w ev hm hd _=> ?_⟩
  have hc:=(dO (bJ t0)).1 (hd (a,x) (by simp))
  have hn:x.n=32*(x.n / 32):=by have:=bJ t0;omega
  rw [EK h1 h2 ho hc,JV (by rw [<-hn];exact bI t1)]
  exact .pure hm (rH hn)
 ·rcases aF e1 with ⟨t0,e2⟩|⟨_,e2⟩
  ·have e3:ah (Nat.ble (Nat.mul 32 (Nat.shiftRight x.n 9)) mQ) (k (aK (Nat.mul 32 (Nat.shiftRight x.n 9))) h) (Ce .i64 x h k)=some r:=e2
   rcases aF e3 with ⟨t1,e4⟩|⟨_,e4⟩
   ·refine ⟨_,h,e4,fun fl=> .refl _ _,fun _ M fl w0 V w ev hm hd _=> ?_⟩
    have hc:=(oh (bJ t0)).1 (hd (a,x) (by simp))
    have hs:Nat.shiftRight x.n 9=x.n / 512:=shr _ 9
    rw [hs] at t1 ⊢
    rw [EK h1 h2 ho hc,JV (bI t1)]
    exact .pure hm (rH rfl)
   ·exact JY h1 h2 ho k r e4
  ·exact JY h1 h2 ho k r e2
theorem QB {x y:X} {neg:Bool} {k:Kx} {r} (e:Cf neg x y h k=some r):∃ m n:Bool,x.n % 32=1/\y.n % 32=1/\m=Nat.beq (x.n / 32) 1/\n=Nat.beq (y.n / 32) 1/\
  ∃ c,k c h=some r/\∀ V,den V c (.bool (if neg then !(m==n) else (m==n))):=by
 have e':ah (Nat.beq (Nat.land x.n 31) 1) (ah (Nat.beq (Nat.land y.n 31) 1)
  (ah (Nat.beq (Nat.beq (Nat.shiftRight x.n 5) 1).toNat (Nat.beq (Nat.shiftRight y.n 5) 1).toNat) (kB (!neg) h k) (kB neg h k)) none) none=some r:=e
 obtain ⟨t1,e1⟩:=aI e'
 obtain ⟨t2,e2⟩:=aI e1
 have s1:Nat.shiftRight x.n 5=x.n / 32:=shr _ 5
 have s2:Nat.shiftRight y.n 5=y.n / 32:=shr _ 5
 rw [s1,s2] at e2
 refine ⟨_,_,bJ t1,bJ t2,rfl,rfl,?_⟩
 generalize Nat.beq (x.n / 32) 1=m at e2
 generalize Nat.beq (y.n / 32) 1=n at e2
 rcases aF e2 with ⟨t3,e3⟩|⟨t3,e3⟩
 ·obtain ⟨c,h1,h2⟩:=Cs e3
  have:m=n:=by have:=aC t3;cases m<;>cases n<;>simp_all
  refine ⟨c,h1,fun V=> ?_⟩
  have:=h2 V
  subst m
  cases neg<;>simpa using this
 ·obtain ⟨c,h1,h2⟩:=Cs e3
  have:m≠n:=fun e=>by subst e;exact gq t3 rfl
  refine ⟨c,h1,fun V=> ?_⟩
  have h3:=h2 V
  have:(m==n)=false:=by cases m<;>cases n<;>simp_all
  rw [this]
  cases neg<;>simpa using h3
theorem QC {neg:Bool} {ty ty':TypeId} {a b:Operand} {x y:X} (hty:P.underlying ty=some .bool) (ho:o.op= .binOp (if neg then .neq else .eql) ty a b ty'):
  eF P o [(a,x),(b,y)] h (Cf neg x y):=fun k r e=>by
 obtain ⟨m,n,t1,t2,hm1,hn1,c,h1,h2⟩:=QB e
 refine ⟨c,h,h1,fun fl=> .refl _ _,fun _ M fl w0 V w ev hm hd _=> ?_⟩
 have e1:=(lI t1).1 (hd (a,x) (by simp))
 have e2:=(lI t2).1 (hd (b,y) (by simp))
 simp only [<-hm1] at e1
 simp only [<-hn1] at e2
 have h2:=h2 V
 cases neg
 ·simp only [Bool.false_eq_true,if_false] at ho h2
  simp only [execOp,ho,e1,e2,eqGuard_at_bool,Sem.run_bind,Sem.run_pure,Result.andThen_ok,run_eql_bool _ _ _ _ hty]
  exact .pure hm h2
 ·simp only [if_true] at ho h2
  have hb:=run_eql_bool (P:=P) w ty m n hty
  simp only [binOp,Sem.run_bind] at hb
  simp only [execOp,ho,e1,e2,eqGuard_at_bool,Sem.run_bind,Sem.run_pure,Result.andThen_ok,binOp]
  cases hq:(Op.equal ty (Value.bool m) (Value.bool n)).run P w with
  |ok r w'=>
   rw [hq] at hb
   simp only [Result.andThen_ok,Sem.run_pure,Result.ok.injEq,Value.bool.injEq] at hb
   obtain ⟨rfl,rfl⟩:=hb
   simp only [Result.andThen_ok,Sem.run_pure]
   exact .pure hm h2
  |halt r w'=>rw [hq] at hb;simp at hb
theorem H9 {neg:Bool} {x:Operand} {ty e ty':TypeId} {n c:Nat} {b:Option Addr} {n' c':Nat} {ev:Operand->Value} {w:World} (hty:P.underlying ty=some (.slice e)) (ho:o.op= .binOp (if neg then .neq else .eql) ty x (.const (.slice none n c)) ty')
  (hx:ev x= .slice b n' c') (hcn:∀ v,ev (.const v)=v):(execOp ev o).run P w= .ok (.value (.bool (if neg then !b.isNone else b.isNone))) w:=by
 have e1:ev (.const (.slice none n c))= .slice none n c:=hcn _
 cases neg
 ·simp only [Bool.false_eq_true,if_false] at ho ⊢
  have e2:eqGuard .eql ty x (.const (.slice none n c)) (.slice b n' c') (.slice none n c)=pure ():=rfl
  simp only [execOp,ho,hx,e1,e2,Sem.run_bind,Sem.run_pure,Result.andThen_ok,Lib.run_eql_slice_nil w ty e b n' c' n c hty]
 ·simp only [if_true] at ho ⊢
  have e2:eqGuard .neq ty x (.const (.slice none n c)) (.slice b n' c') (.slice none n c)=pure ():=rfl
  simp only [execOp,ho,hx,e1,e2,Sem.run_bind,Sem.run_pure,Result.andThen_ok,run_neq_slice_nil_any w ty e b n' c' n c hty]
theorem QD {neg:Bool} {ty e ty':TypeId} {a:Operand} {n c:Nat} {x:X} (hty:P.underlying ty=some (.slice e)) (ho:o.op= .binOp (if neg then .neq else .eql) ty a (.const (.slice none n c)) ty'):
  eF P o [(a,x)] h (Ql neg x):=fun k r e=>by
 have e':ah (Nat.beq x.n 6) (kB (!neg) h k) (ah (Nat.beq (Nat.land x.n 31) 8) (kB neg h k) (ah (Nat.beq x.n 11) (kB neg h k) none))=some r:=e
 have key:∀ (b:Bool),kB (if neg then !b else b) h k=some r->(∀ V u,den V x u->∃ ad n' c',u= .slice ad n' c'/\ad.isNone=b)->∃ x_1 h',k x_1 h'=some r/\(∀ fl,aM fl h h')/\((∀ p ∈ h'.fa,p)->∀ (M:Rel) fl w0 V w (ev:Operand->Value),M.R w0 V h w->(∀ q ∈ [(a,x)],den V q.2 (ev q.1))->(∀ v,ev (.const v)=v)->
   dw M P w0 fl V h w x_1 h' ((execOp ev o).run P w)):=fun b e hx=>by
  obtain ⟨y,h1,h2⟩:=Cs e
  refine ⟨y,h,h1,fun fl=> .refl _ _,fun _ M fl w0 V w ev hm hd hcn=> ?_⟩
  obtain ⟨ad,n',c',h3,h4⟩:=hx V _ (hd (a,x) (by simp))
  rw [H9 hty ho h3 hcn,h4]
  exact .pure hm (h2 V)
 rcases aF e' with ⟨t,e1⟩|⟨_,e1⟩
 ·refine key true (by cases neg<;>exact e1) fun V u hd=> ?_
  exact ⟨_,_,_,(jX (by rw [aC t])).1 hd,rfl⟩
 ·rcases aF e1 with ⟨t,e2⟩|⟨_,e2⟩
  ·refine key false (by cases neg<;>exact e2) fun V u hd=> ?_
   obtain ⟨_,cap,hu,_⟩:=(gT (bJ t)).1 hd
   exact ⟨_,_,_,hu,rfl⟩
  ·obtain ⟨t,e3⟩:=aI e2
   refine key false (by cases neg<;>exact e3) fun V u hd=> ?_
   obtain ⟨ad,cap,hu⟩:=(zL (by rw [aC t])).1 hd
   exact ⟨_,_,_,hu,rfl⟩
theorem xM {p:X} {k:Nat->Nat->R} {r} (e:zO p k=some r):p.n % 32=7/\k (p.n / 32 / 1048576) (p.n / 32 % 1048576)=some r:=by
 have e':ah (Nat.beq (Nat.land p.n 31) 7) (k (Nat.shiftRight p.n 25) (Nat.land (Nat.shiftRight p.n 5) 1048575)) none=some r:=e
 obtain ⟨t,e1⟩:=aI e'
 have s1:Nat.shiftRight p.n 25=p.n / 33554432:=shr _ 25
 have s2:Nat.shiftRight p.n 5=p.n / 32:=shr _ 5
 rw [s1,s2,Co,show p.n / 33554432=p.n / 32 / 1048576 by omega] at e1
 exact ⟨bJ t,e1⟩
theorem JZ {V:Vw} {b off n:Nat} (hb:V.S b) (hoff:off<1048576) (hn:n=32*(1048576*b+off)+7):den V (aK n) (.pointer (some ⟨V.ρ b,off,none⟩)):=by
 subst hn
 rw [mK (x:=aK (32*(1048576*b+off)+7)) (by show (32*(1048576*b+off)+7) % 32=7;omega)]
 show V.S ((32*(1048576*b+off)+7) / 32 / 1048576)/\_=Value.pointer (some ⟨V.ρ ((32*(1048576*b+off)+7) / 32 / 1048576),(32*(1048576*b+off)+7) / 32 % 1048576,none⟩)
 rw [show (32*(1048576*b+off)+7) / 32=1048576*b+off by omega,show (1048576*b+off) / 1048576=b by omega,show (1048576*b+off) % 1048576=off by omega]
 exact ⟨hb,rfl⟩
theorem QE {b off:Nat} {k:Kx} {r} (e:EF b off h k=some r):off<1048576/\∃ x,k x h=some r/\∀ V,V.S b->den V x (.pointer (some ⟨V.ρ b,off,none⟩)):=by
 have e':ah (Nat.ble off 1048575) (k (aK (Nat.add (Nat.mul 32 (Nat.add (Nat.mul 1048576 b) off)) 7)) h) none=some r:=e
 obtain ⟨t,e1⟩:=aI e'
 have:=bI t
 exact ⟨by omega,_,e1,fun V hb=>JZ hb (by omega) rfl⟩
theorem QF {ty:TypeId} {fs:Array Field} {fi sz:Nat} {fd:Field} {a:Operand} {ev:Operand->Value} {w:World} {g off:Nat} (h1:P.underlying ty=some (.struct fs))
  (h2:fs[fi]? =some fd) (h3:Go.Eng.sizeP P fd.type=some sz) (h4:sz≠0) (ho:o.op= .fieldAddr ty a fi) (hx:ev a= .pointer (some ⟨g,off,none⟩)):
  (execOp ev o).run P w= .ok (.value (.pointer (some ⟨g,off+fd.offset,none⟩))) w:=by
 simp only [execOp,ho,hx,Instr.fieldAt,Sem.run_bind,run_underlying h1,h2,Instr.sureAddr,Sem.run_pure,Result.andThen_ok,fieldPlace,Go.Eng.cu h3,h4,if_false,Go.Eng.add_plain]
theorem aki {ty:TypeId} {fs:Array Field} {fi sz:Nat} {fd:Field} {a:Operand} {x:X} (h1:P.underlying ty=some (.struct fs))
  (h2:fs[fi]? =some fd) (h3:Go.Eng.sizeP P fd.type=some sz) (h4:sz≠0) (ho:o.op= .fieldAddr ty a fi):eF P o [(a,x)] h (Qm fd.offset x):=fun k r e=>by
 have e':ah (Nat.beq (Nat.land x.n 31) 7) (ah (Nat.ble (Nat.add (Nat.land x.n 33554431) (Nat.mul 32 fd.offset)) 33554431) (k (aK (Nat.add x.n (Nat.mul 32 fd.offset))) h) none) none=some r:=e
 obtain ⟨t1,e1⟩:=aI e'
 obtain ⟨t2,e2⟩:=aI e1
 refine ⟨_,h,e2,fun fl=> .refl _ _,fun _ M fl w0 V w ev hm hd _=> ?_⟩
 have ht:=bJ t1
 obtain ⟨hb,hx⟩:=(mK ht).1 (hd (a,x) (by simp))
 have t3:=bI t2
 rw [ajS] at t3
 have t3:x.n % 33554432+32*fd.offset<=33554431:=t3
 rw [QF h1 h2 h3 h4 ho hx]
 exact .pure hm (JZ hb (by omega) (by show x.n+32*fd.offset=_;omega))
theorem EL {vs:List Value} {i:Nat} {v:Value} (h:∀ v ∈ vs,one v) (hv:vs[i]? =some v):one v:=h v (List.mem_iff_getElem?.2 ⟨i,hv⟩)
theorem EM {V:Vw}:∀ {l:List X} {vs:List Value} (i:Nat),aU V l vs->aU V (l.drop i) (vs.drop i)
 |l,vs,0,h=>h
 |[],vs,i+1,h=>by rw [dA.1 h];exact dA.2 rfl
 |x::l,vs,i+1,h=>by
  obtain ⟨v,r,rfl,_,h2⟩:=dz.1 h
  exact EM i h2
theorem J2 {V:Vw}:∀ {l:List X} {vs:List Value} (i:Nat),aU V l vs->aU V (l.take i) (vs.take i)
 |l,vs,0,h=>dA.2 rfl
 |[],vs,i+1,h=>by rw [dA.1 h];exact dA.2 rfl
 |x::l,vs,i+1,h=>by
  obtain ⟨v,r,rfl,h1,h2⟩:=dz.1 h
  exact dz.2 ⟨v,r.take i,rfl,h1,J2 i h2⟩
theorem zU {V:Vw} {l:List X} {vs:List Value} {n:Nat} {o:Value} (hn:n=32*vs.length+2) (h1:∀ v ∈ vs,one v) (h2:aU V l vs):den V ⟨n,l,o⟩ (.agg vs.toArray):=by
 subst hn
 exact (lJ (x:=⟨32*vs.length+2,l,o⟩) (by simp only;omega)).2 ⟨vs,rfl,h1,h2,by simp only;omega⟩
theorem QG {ag:Bool} {off sz:Nat} {x:X} {k:Kx} {r} (e:zP ag off sz x h k=some r):x.n % 32=2/\∃ c,k c h=some r/\
  ∀ V (vs:List Value),(∀ v ∈ vs,one v)->aU V x.l vs->(ag=true->off+sz<=vs.length/\den V c (.agg ((vs.drop off).take sz).toArray))/\(ag=false->∃ v,vs[off]? =some v/\den V c v):=by
 have e':=e
 unfold zP at e'
 rw [fo] at e'
 obtain ⟨t1,e1⟩:=aI e'
 refine ⟨bJ t1,?_⟩
 rcases aF e1 with ⟨t2,e2⟩|⟨t2,e2⟩
 ·obtain ⟨h1,e3⟩:=EH e2
  obtain ⟨h2,e4⟩:=Cj e3
  rw [List.length_drop] at h2
  refine ⟨_,e4,fun V vs ho hv=>⟨fun _=>⟨?_,zU ?_ (fun v hv'=>ho v (List.mem_of_mem_drop (List.mem_of_mem_take hv'))) (J2 sz (EM off hv))⟩,fun hf=>by rw [hf] at t2;cases t2⟩⟩
  ·rw [jh hv]
   omega
  ·rw [List.length_take,List.length_drop,jh hv,Nat.min_eq_left (by omega)];rfl
 ·obtain ⟨c,h1,e3⟩:=tH e2
  rw [rF] at e3
  exact ⟨c,e3,fun V vs ho hv=>⟨fun hf=>by (rw [hf] at t2;cases t2),fun _=>mJ hv h1⟩⟩
theorem akj {ty:TypeId} {fs:Array Field} {fi sz:Nat} {fd:Field} {a:Operand} {ev:Operand->Value} {w:World} {vs:List Value} (h1:P.underlying ty=some (.struct fs))
  (h2:fs[fi]? =some fd) (h3:Go.Eng.sizeP P fd.type=some sz) (h4:Go.Eng.aggP P fd.type=some true) (ho:o.op= .field ty a fi) (hx:ev a= .agg vs.toArray) (hl:fd.offset+sz<=vs.length):
  (execOp ev o).run P w= .ok (.value (.agg ((vs.drop fd.offset).take sz).toArray)) w:=by
 have:vs.toArray.extract fd.offset (fd.offset+sz)=((vs.drop fd.offset).take sz).toArray:=by
  apply Array.ext'
  simp [List.take_drop]
 simp only [execOp,ho,hx,Instr.field,asAgg,part,Sem.run_bind,run_underlying h1,h2,Go.Eng.jR h4,Go.Eng.cu h3,Sem.run_pure,Result.andThen_ok,if_true]
 simp [this,hl]
theorem akk {ag:Bool} {ty:TypeId} {fs:Array Field} {fi sz:Nat} {fd:Field} {a:Operand} {x:X} (h1:P.underlying ty=some (.struct fs))
  (h2:fs[fi]? =some fd) (h3:Go.Eng.sizeP P fd.type=some sz) (h4:Go.Eng.aggP P fd.type=some ag) (ho:o.op= .field ty a fi):eF P o [(a,x)] h (zP ag fd.offset sz x):=fun k r e=>by
 obtain ⟨t,c,e1,hc⟩:=QG e
 refine ⟨c,h,e1,fun fl=> .refl _ _,fun _ M fl w0 V w ev hm hd _=> ?_⟩
 obtain ⟨vs,hu,h5,h6,_⟩:=(lJ t).1 (hd (a,x) (by simp))
 cases ag with
 |true=>
  obtain ⟨h7,h8⟩:=(hc V vs h5 h6).1 rfl
  rw [akj h1 h2 h3 h4 ho hu h7]
  exact .pure hm h8
 |false=>
  obtain ⟨v,h7,h8⟩:=(hc V vs h5 h6).2 rfl
  have hg:vs.toArray[fd.offset]? =some v:=by simpa using h7
  have hu':ev a= .agg vs.toArray:=hu
  simp only [execOp,ho,hu',Instr.field,asAgg,part,Sem.run_bind,run_underlying h1,h2,Go.Eng.jR h4,hg,Sem.run_pure,Result.andThen_ok,Bool.false_eq_true,if_false]
  exact .pure hm h8
theorem akl {i:Nat} {a:Operand} {x:X} (ho:o.op= .extract a i):eF P o [(a,x)] h (JM i x):=fun k r e=>by
 have e':=e
 unfold JM at e'
 rw [fo] at e'
 obtain ⟨t,e1⟩:=aI e'
 obtain ⟨c,h1,e2⟩:=tH e1
 rw [rF] at e2
 refine ⟨c,h,e2,fun fl=> .refl _ _,fun _ M fl w0 V w ev hm hd _=> ?_⟩
 obtain ⟨vs,hu,h6⟩:=(xu (bJ t)).1 (hd (a,x) (by simp))
 obtain ⟨v,h7,h8⟩:=mJ h6 h1
 have hg:vs.toArray[i]? =some v:=by simpa using h7
 have hu':ev a= .tuple vs.toArray:=hu
 simp only [execOp,ho,hu',Instr.extract,hg,Sem.run_bind,Sem.run_pure,Result.andThen_ok]
 exact .pure hm h8
theorem akm {a:Operand} {x:X} (ho:o.op= .nilCheck a):eF P o [(a,x)] h (JI x):=fun k r e=>by
 have e':=e
 unfold JI at e'
 rw [fo] at e'
 have hx:(⟨x.n,x.l,x.o⟩:X)=x:=by cases x;rfl
 rw [hx] at e'
 rcases aF e' with ⟨t,e1⟩|⟨_,e1⟩
 ·refine ⟨x,h,e1,fun fl=> .refl _ _,fun _ M fl w0 V w ev hm hd _=> ?_⟩
  have hv:=hd (a,x) (by simp)
  obtain ⟨hb,hu⟩:=(mK (bJ t)).1 hv
  have hu':ev a=_:=hu
  simp only [execOp,ho,hu',Sem.run_pure]
  rw [<-hu']
  exact .pure hm hv
 ·obtain ⟨t,e2⟩:=aI e1
  refine ⟨x,h,e2,fun fl=> .refl _ _,fun _ M fl w0 V w ev hm hd _=> ?_⟩
  have hv:=hd (a,x) (by simp)
  obtain ⟨vs,hu,_⟩:=(xw (bJ t)).1 hv
  have hu':ev a=jC (x.n / 32) vs.toArray:=hu
  unfold jC at hu'
  have:(execOp ev o).run P w= .ok (.value (ev a)) w:=by
   split at hu'<;>simp only [execOp,ho,hu',Sem.run_pure]
  rw [this]
  exact .pure hm hv
def J3 (i:X) (n:Nat):Prop:=(i.n % 32=0/\n=i.n / 32)\/(i.n % 32=4/\n=i.n / 512)
theorem J3.den {V:Vw} {i:X} {n:Nat} {u:Value} (h:J3 i n) (hd:den V i u):∃ q,u= .int q (n:Int):=by
 rcases h with ⟨h1,rfl⟩|⟨h1,rfl⟩
 ·exact ⟨_,(dO h1).1 hd⟩
 ·exact ⟨_,(oh h1).1 hd⟩
theorem EN {i:X} {len:Nat} {k:Nat->R} {r} (e:xE i len k=some r):∃ n,J3 i n/\n<len/\k n=some r:=by
 have e':ah (Nat.beq (Nat.land i.n 31) 0) (ah (Nat.ble len (Nat.shiftRight i.n 5)) none (k (Nat.shiftRight i.n 5))) (ah (Nat.beq (Nat.land i.n 31) 4) (ah (Nat.ble len (Nat.shiftRight i.n 9)) none (k (Nat.shiftRight i.n 9))) none)=some r:=e
 rw [show Nat.shiftRight i.n 5=i.n / 32 from shr _ 5,show Nat.shiftRight i.n 9=i.n / 512 from shr _ 9] at e'
 rcases aF e' with ⟨t,e1⟩|⟨_,e1⟩
 ·rcases aF e1 with ⟨_,e2⟩|⟨t2,e2⟩
  ·cases e2
  ·exact ⟨_,.inl ⟨bJ t,rfl⟩,tJ t2,e2⟩
 ·obtain ⟨t,e2⟩:=aI e1
  rcases aF e2 with ⟨_,e3⟩|⟨t2,e3⟩
  ·cases e3
  ·exact ⟨_,.inr ⟨bJ t,rfl⟩,tJ t2,e3⟩
theorem vv {n:Nat} {k:Nat->Nat->Nat->Nat->R} {r} (e:kS n k=some r):k (n / 64 / 1048576 / 1048576) (n / 64 / 1048576 % 1048576) (n / 64 % 1048576) (n / 32 % 2)=some r:=by
 have e':k (Nat.shiftRight n 46) (Nat.land (Nat.shiftRight n 26) 1048575) (Nat.land (Nat.shiftRight n 6) 1048575) (Nat.land (Nat.shiftRight n 5) 1)=some r:=e
 rw [show Nat.shiftRight n 46=n / 70368744177664 from shr _ 46,show Nat.shiftRight n 26=n / 67108864 from shr _ 26,show Nat.shiftRight n 6=n / 64 from shr _ 6,show Nat.shiftRight n 5=n / 32 from shr _ 5,Co,Co,ajT,
  show n / 70368744177664=n / 64 / 1048576 / 1048576 by omega,show n / 67108864=n / 64 / 1048576 by omega] at e'
 exact e'
theorem akn {ty el:TypeId} {sz:Nat} {a i:Operand} {ev:Operand->Value} {w:World} {g off len cap n:Nat} (h1:P.underlying ty=some (.slice el)) (h3:Go.Eng.sizeP P el=some sz)
  (ho:o.op= .indexAddr ty a i) (hx:ev a= .slice (some ⟨g,off,none⟩) len cap) {q:IntKind} (hi:ev i= .int q (n:Int)) (hlt:n<len):
  (execOp ev o).run P w= .ok (.value (.pointer (some ⟨g,off+n*sz,none⟩))) w:=by
 have c1:(0:Int)<=(n:Int):=Int.natCast_nonneg n
 have c2:(n:Int)<(len:Int):=by omega
 simp only [execOp,ho,hx,hi,Instr.indexAt,asIntOf,Sem.run_bind,run_underlying h1,Sem.run_pure,Result.andThen_ok,Go.Eng.cu h3,Go.Eng.add_plain,c1,c2,and_self,Sem.run_ite,if_true,Int.toNat_natCast]
theorem ako {ty el:TypeId} {sz:Nat} {a i:Operand} {x y:X} (h1:P.underlying ty=some (.slice el)) (h3:Go.Eng.sizeP P el=some sz) (ho:o.op= .indexAddr ty a i):
  eF P o [(a,x),(i,y)] h (Qn sz x y):=fun k r e=>by
 have e':ah (Nat.beq (Nat.land x.n 31) 8) (kS x.n fun b off len _=>xE y len fun i=>EF b (Nat.add off (Nat.mul i sz)) h k) none=some r:=e
 obtain ⟨t,e1⟩:=aI e'
 obtain ⟨n,hi1,hi2,e3⟩:=EN (vv e1)
 obtain ⟨hoff,c,e4,hc⟩:=QE e3
 refine ⟨c,h,e4,fun fl=> .refl _ _,fun _ M fl w0 V w ev hm hd _=> ?_⟩
 obtain ⟨hb,cap,hu,_⟩:=(gT (bJ t)).1 (hd (a,x) (by simp))
 obtain ⟨_,hq⟩:=hi1.den (hd (i,y) (by simp))
 rw [akn h1 h3 ho hu hq hi2]
 exact .pure hm (hc V hb)
theorem akp {ty el:TypeId} {len sz:Nat} {a i:Operand} {ev:Operand->Value} {w:World} {g off n:Nat} (h1:P.underlying ty=some (.array len el)) (h3:Go.Eng.sizeP P el=some sz)
  (ho:o.op= .indexAddr ty a i) (hx:ev a= .pointer (some ⟨g,off,none⟩)) {q:IntKind} (hi:ev i= .int q (n:Int)) (hlt:n<len):
  (execOp ev o).run P w= .ok (.value (.pointer (some ⟨g,off+n*sz,none⟩))) w:=by
 have c1:(0:Int)<=(n:Int):=Int.natCast_nonneg n
 have c2:(n:Int)<(len:Int):=by omega
 simp only [execOp,ho,hx,hi,Instr.indexAt,Instr.sureAddr,asIntOf,Sem.run_bind,run_underlying h1,Sem.run_pure,Result.andThen_ok,Go.Eng.cu h3,Go.Eng.add_plain,c1,c2,and_self,Sem.run_ite,if_true,Int.toNat_natCast]
end
end
end Go.M
namespace Go.M
open Go
noncomputable section
variable [aY]
section
variable {P:Program} {fl:Nat} {o:Oper} {h:Hp}
theorem akq {ty el:TypeId} {len sz:Nat} {a i:Operand} {x y:X} (h1:P.underlying ty=some (.array len el)) (h3:Go.Eng.sizeP P el=some sz) (ho:o.op= .indexAddr ty a i):
  eF P o [(a,x),(i,y)] h (Qo len sz x y):=fun k r e=>by
 obtain ⟨t,e1⟩:=xM e
 obtain ⟨n,hi1,hi2,e3⟩:=EN e1
 obtain ⟨hoff,c,e4,hc⟩:=QE e3
 refine ⟨c,h,e4,fun fl=> .refl _ _,fun _ M fl w0 V w ev hm hd _=> ?_⟩
 obtain ⟨hb,hu⟩:=(mK t).1 (hd (a,x) (by simp))
 obtain ⟨_,hq⟩:=hi1.den (hd (i,y) (by simp))
 rw [akp h1 h3 ho hu hq hi2]
 exact .pure hm (hc V hb)
theorem QH {ag:Bool} {ty el:TypeId} {len sz:Nat} {a i:Operand} {ev:Operand->Value} {w:World} {n:Nat} {vs:List Value} {v:Value} (h1:P.underlying ty=some (.array len el)) (h3:Go.Eng.sizeP P el=some sz)
  (h4:Go.Eng.aggP P el=some ag) (ho:o.op= .index ty a i) (hx:ev a= .agg vs.toArray) {q:IntKind} (hi:ev i= .int q (n:Int)) (hlt:n<len)
  (hv:(ag=true->n*sz+sz<=vs.length/\v= .agg ((vs.drop (n*sz)).take sz).toArray)/\(ag=false->vs[n*sz]? =some v)):(execOp ev o).run P w= .ok (.value v) w:=by
 have c1:(0:Int)<=(n:Int):=Int.natCast_nonneg n
 have c2:(n:Int)<(len:Int):=by omega
 cases ag with
 |true=>
  obtain ⟨h5,rfl⟩:=hv.1 rfl
  have:vs.toArray.extract (n*sz) (n*sz+sz)=((vs.drop (n*sz)).take sz).toArray:=by
   apply Array.ext'
   simp [List.take_drop]
  simp only [execOp,ho,hx,hi,Instr.index,asIntOf,part,Sem.run_bind,run_underlying h1,Sem.run_pure,Result.andThen_ok,c1,c2,and_self,Sem.run_ite,if_true,Go.Eng.cu h3,Go.Eng.jR h4,Int.toNat_natCast]
  simp [this,h5]
 |false=>
  have hg:vs.toArray[n*sz]? =some v:=by simpa using hv.2 rfl
  simp only [execOp,ho,hx,hi,Instr.index,asIntOf,part,Sem.run_bind,run_underlying h1,Sem.run_pure,Result.andThen_ok,c1,c2,and_self,Sem.run_ite,if_true,Go.Eng.cu h3,Go.Eng.jR h4,Int.toNat_natCast,Bool.false_eq_true,if_false,hg]
theorem akr {ag:Bool} {ty el:TypeId} {len sz:Nat} {a i:Operand} {x y:X} (h1:P.underlying ty=some (.array len el)) (h3:Go.Eng.sizeP P el=some sz) (h4:Go.Eng.aggP P el=some ag) (ho:o.op= .index ty a i):
  eF P o [(a,x),(i,y)] h (Qp ag len sz x y):=fun k r e=>by
 obtain ⟨n,hi1,hi2,e3⟩:=EN e
 have e4:zP ag (Nat.mul n sz) sz x h k=some r:=e3
 obtain ⟨t,c,e5,hc⟩:=QG e4
 refine ⟨c,h,e5,fun fl=> .refl _ _,fun _ M fl w0 V w ev hm hd _=> ?_⟩
 obtain ⟨vs,hu,h5,h6,_⟩:=(lJ t).1 (hd (a,x) (by simp))
 obtain ⟨_,hiv⟩:=hi1.den (hd (i,y) (by simp))
 cases ag with
 |true=>
  obtain ⟨h7,h8⟩:=(hc V vs h5 h6).1 rfl
  rw [QH h1 h3 h4 ho hu hiv hi2 ⟨fun _=>⟨h7,rfl⟩,fun hf=>by cases hf⟩]
  exact .pure hm h8
 |false=>
  obtain ⟨v,h7,h8⟩:=(hc V vs h5 h6).2 rfl
  rw [QH h1 h3 h4 ho hu hiv hi2 ⟨fun hf=>by (cases hf),fun _=>h7⟩]
  exact .pure hm h8
theorem sG {ty el:TypeId} {x:Operand} {c:Call} {ad:Option Addr} {n cap:Nat} {ev:Operand->Value} {w:World} (h1:P.underlying ty=some (.slice el)) (hc:c.callee= .builtin .len)
  (h2:c.argTypes[0]? =some ty) (h3:c.args[0]? =some x) (ho:o.op= .call c) (hx:ev x= .slice ad n cap):(execOp ev o).run P w= .ok (.value (.int .i64 (Int.ofNat n))) w:=by
 have dD:∀ v,(Builtin.len_ c.argTypes o.type (c.args.map ev)).run P w= .ok v w->(execOp ev o).run P w= .ok (.value v) w:=by
  intro v hv
  simp only [execOp,ho,resolve,hc,invoke,builtin,Sem.run_bind,Sem.run_pure,Result.andThen_ok,hv]
 refine dD _ ?_
 simp [Builtin.len_,h2,h3,hx,run_underlying h1,goInt]
theorem aks {ty el:TypeId} {a:Operand} {c:Call} {x:X} (h1:P.underlying ty=some (.slice el)) (hc:c.callee= .builtin .len)
  (h2:c.argTypes[0]? =some ty) (h3:c.args[0]? =some a) (ho:o.op= .call c):eF P o [(a,x)] h (Qq x):=fun k r e=>by
 have e':ah (Nat.beq (Nat.land x.n 31) 8) (k (aK (Nat.mul 32 (Nat.land (Nat.shiftRight x.n 6) 1048575))) h) (ah (Nat.beq x.n 6) (k (aK 0) h) (ah (Nat.beq x.n 11) (k (aK 0) h) (ah (rC x) (iU (zQ x) h k) none)))=some r:=e
 rcases aF e' with ⟨t,e1⟩|⟨_,e1⟩
 ·rw [show Nat.shiftRight x.n 6=x.n / 64 from shr _ 6,Co] at e1
  refine ⟨_,h,e1,fun fl=> .refl _ _,fun _ M fl w0 V w ev hm hd _=> ?_⟩
  obtain ⟨hb,cap,hu,_⟩:=(gT (bJ t)).1 (hd (a,x) (by simp))
  rw [sG h1 hc h2 h3 ho hu]
  exact .pure hm (rH rfl)
 ·rcases aF e1 with ⟨t,e2⟩|⟨_,e2⟩
  ·refine ⟨_,h,e2,fun fl=> .refl _ _,fun _ M fl w0 V w ev hm hd _=> ?_⟩
   rw [sG h1 hc h2 h3 ho ((jX (by rw [aC t])).1 (hd (a,x) (by simp)))]
   exact .pure hm (rH rfl)
  ·rcases aF e2 with ⟨t,e3⟩|⟨_,e3⟩
   ·refine ⟨_,h,e3,fun fl=> .refl _ _,fun _ M fl w0 V w ev hm hd _=> ?_⟩
    obtain ⟨ad,cap,hu⟩:=(zL (by rw [aC t])).1 (hd (a,x) (by simp))
    rw [sG h1 hc h2 h3 ho hu]
    exact .pure hm (rH rfl)
   ·obtain ⟨_,e4⟩:=aI e3
    obtain ⟨v,q,e5⟩:=tL e4
    refine ⟨v,_,e5,fun fl=> .fG,fun hf M fl w0 V w ev hm hd _=> ?_⟩
    obtain ⟨ad,n,cp,g1,g2⟩:zQ x v:=hf _ (List.mem_cons_self ..)
    have hv:ev a= .slice ad n cp:=jk g1 (hd (a,x) (by simp))
    rw [sG h1 hc h2 h3 ho hv]
    exact ⟨_,w,V,.inl rfl,M.fG hm,xK g2 rfl,.refl ..⟩
theorem rJ {b off len c:Nat} {k:Kx} {r} (e:gZ b off len c h k=some r) (hc2:c<2):off<1048576/\len<1048576/\∃ x,k x h=some r/\∀ V cap,V.S b->len<=cap->(c=1->cap=len)->(c=0->off+cap*V.ε b=V.σ b)->
  den V x (.slice (some ⟨V.ρ b,off,none⟩) len cap):=by
 have e':=e
 unfold gZ at e'
 rw [mI] at e'
 obtain ⟨t1,e1⟩:=aI e'
 obtain ⟨t2,e2⟩:=aI e1
 have t1:=bI t1
 have t2:=bI t2
 refine ⟨by omega,by omega,_,e2,fun V cap hb hl hc hn=> ?_⟩
 have hN:Nat.add (Nat.mul 64 (Nat.add (Nat.mul (Nat.add (Nat.mul b 1048576) off) 1048576) len)) (Nat.add (Nat.mul 32 c) 8)=64*((b*1048576+off)*1048576+len)+(32*c+8):=by simp only [Nat.add_eq,Nat.mul_eq]
 rw [hN]
 generalize hM:64*((b*1048576+off)*1048576+len)+(32*c+8)=n
 have a1:n % 32=8:=by omega
 have a2:n / 64=(b*1048576+off)*1048576+len:=by omega
 have a3:n / 64 % 1048576=len:=by omega
 have a4:n / 64 / 1048576 % 1048576=off:=by omega
 have a5:n / 64 / 1048576 / 1048576=b:=by omega
 have a6:n / 32 % 2=c:=by omega
 refine (gT (x:=aK n) a1).2 ?_
 show V.S (n / 64 / 1048576 / 1048576)/\∃ EO,_=Value.slice (some ⟨V.ρ (n / 64 / 1048576 / 1048576),n / 64 / 1048576 % 1048576,none⟩) (n / 64 % 1048576) EO/\n / 64 % 1048576<=EO/\
   (n / 32 % 2=1->EO=n / 64 % 1048576)/\(n / 32 % 2=0->n / 64 / 1048576 % 1048576+EO*V.ε (n / 64 / 1048576 / 1048576)=V.σ (n / 64 / 1048576 / 1048576))
 rw [a3,a4,a5,a6]
 exact ⟨hb,cap,rfl,hl,hc,hn⟩
theorem xN {x:X} {k:Nat->R} {r} (e:xG x k=some r):x.n % 32=0/\k (x.n / 32)=some r:=by
 have e':ah (Nat.beq (Nat.land x.n 31) 0) (k (Nat.shiftRight x.n 5)) none=some r:=e
 obtain ⟨t,e1⟩:=aI e'
 rw [show Nat.shiftRight x.n 5=x.n / 32 from shr _ 5] at e1
 exact ⟨bJ t,e1⟩
def vw (d:Nat) (x:Option Operand) (ev:Operand->Value) (n:Nat):Prop:=(x=none/\n=d)\/∃ y,x=some y/\ev y= .int .i64 (Int.ofNat n)
theorem DW (HZ:Bool) {len cap l r:Nat} {lo hi:Option Operand} {ev:Operand->Value} (hl:vw 0 lo ev l) (hr:vw len hi ev r) (hlr:l<=r) (hrc:r<=cap) (w':World):
  (Instr.sliceBounds HZ len cap (lo.map ev) (hi.map ev) none).run P w'= .ok (l,r,cap) w':=by
 rcases hr with ⟨rfl,rfl⟩|⟨y,rfl,hy⟩<;>rcases hl with ⟨rfl,rfl⟩|⟨z,rfl,hz⟩
 ·simp [Instr.sliceBounds]
 ·have c1:(l:Int)<=(r:Int):=by omega
  simp [Instr.sliceBounds,hz,Instr.sliceBound,asIntOf,hlr]
 ·simp [Instr.sliceBounds,hy,Instr.sliceBound,asIntOf,hrc]
 ·simp [Instr.sliceBounds,hz,hy,Instr.sliceBound,asIntOf,hrc,hlr]
theorem akt {ty el sz:Nat} {a:Operand} {lo hi:Option Operand} {ev:Operand->Value} {w:World} {ad:Option Addr} {len cap l r:Nat} (hu:P.underlying ty=some (.slice el)) (hs:Go.Eng.sizeP P el=some sz)
  (ho:o.op= .slice ty a lo hi none) (hx:ev a= .slice ad len cap) (hl:vw 0 lo ev l) (hr:vw len hi ev r) (hlr:l<=r) (hrc:r<=cap):
  (execOp ev o).run P w= .ok (.value (.slice (if cap=l then ad else ad.map (·.add (l*sz))) (r - l) (cap - l))) w:=by
 simp only [execOp,ho,hx,Instr.sliceAt,Instr.slice,Sem.run_bind,run_underlying hu,Result.andThen_ok,Option.map_none,DW true hl hr hlr hrc,Go.Eng.cu hs,Sem.run_pure]
theorem aku {ty el sz:Nat} {a lo hi mx:Operand} {ev:Operand->Value} {w:World} {ad:Option Addr} {len cap l r:Nat} (hu:P.underlying ty=some (.slice el)) (hs:Go.Eng.sizeP P el=some sz)
  (lo:Option Operand) (ho:o.op= .slice ty a lo (some hi) (some mx)) (hx:ev a= .slice ad len cap) {m:Nat} (hl:vw 0 lo ev l) (hr:ev hi= .int .i64 (Int.ofNat r)) (hm:ev mx= .int .i64 (Int.ofNat m)) (hlr:l<=r) (hrm:r<=m) (hrc:m<=cap):
  (execOp ev o).run P w= .ok (.value (.slice (if m=l then ad else ad.map (·.add (l*sz))) (r - l) (m - l))) w:=by
 have hb:(Instr.sliceBounds true len cap (lo.map ev) (some (ev hi)) (some (ev mx))).run P w= .ok (l,r,m) w:=by
  rcases hl with ⟨rfl,rfl⟩|⟨z,rfl,hz⟩
  ·simp [Instr.sliceBounds,hm,hr,Instr.sliceBound,asIntOf,hrc,hrm]
  ·simp [Instr.sliceBounds,hz,hm,hr,Instr.sliceBound,asIntOf,hrc,hlr,hrm]
 simp only [execOp,ho,hx,Instr.sliceAt,Instr.slice,Sem.run_bind,run_underlying hu,Result.andThen_ok,Option.map_some,hb,Go.Eng.cu hs,Sem.run_pure]
theorem Ct (g off n:Nat):(⟨g,off,none⟩:Addr).add n=⟨g,off+n,none⟩:=Go.Eng.add_plain g off n
theorem EP (g off n:Nat):(some (⟨g,off,none⟩:Addr)).map (·.add n)=some ⟨g,off+n,none⟩:=by simp only [Option.map_some,Ct]
theorem akv {sz:Nat} {x lo hi:X} {k:Kx} {r} (e:Ch sz x lo hi h k=some r):lo.n % 32=0/\hi.n % 32=0/\lo.n / 32<=hi.n / 32/\∃ c,k c h=some r/\∀ w0 V w u,MR w0 V h w->den V x u->∃ ad len cap,u= .slice ad len cap/\hi.n / 32<=cap/\
  den V c (.slice (if cap=lo.n / 32 then ad else ad.map (·.add (lo.n / 32*sz))) (hi.n / 32 - lo.n / 32) (cap - lo.n / 32)):=by
 obtain ⟨h1,e1⟩:=xN e
 obtain ⟨h2,e2⟩:=xN e1
 obtain ⟨hlr,e3⟩:=aI e2
 have hlr:=bI hlr
 generalize lo.n / 32=l at*
 generalize hi.n / 32=q at*
 refine ⟨h1,h2,hlr,?_⟩
 rcases aF e3 with ⟨t,e4⟩|⟨_,e4⟩
 ·obtain ⟨t2,e5⟩:=aI e4
  have t2:=aC t2
  refine ⟨_,e5,fun w0 V w u hm hd=>⟨none,0,0,(jX (by rw [aC t])).1 hd,by omega,?_⟩⟩
  have hl0:l=0:=by omega
  subst t2;subst hl0
  simp only [if_true,Nat.sub_zero]
  exact (jX (x:=aK 6) rfl).2 rfl
 ·obtain ⟨t,e5⟩:=aI e4
  have e6:=vv e5
  have t:=bJ t
  have k11:∀ V u (ad:Addr) (len cap:Nat),u=Value.slice (some ad) len cap->l=q->q<=cap->∃ ad len cap,u= .slice ad len cap/\q<=cap/\den V (aK 11) (.slice (if cap=l then ad else ad.map (·.add (l*sz))) (q - l) (cap - l)):=fun V u ad len cap hu hq hc=>by
   refine ⟨_,_,_,hu,hc,(zL (x:=aK 11) rfl).2 ?_⟩
   subst hq
   rw [Nat.sub_self]
   split
   ·exact ⟨_,_,rfl⟩
   ·exact ⟨_,_,rfl⟩
  rcases aF e6 with ⟨tc,e7⟩|⟨tc,e7⟩
  ·have tc:=aC tc
   obtain ⟨bn,rows,hg,hk,e8⟩:=pU e7
   obtain ⟨he,e9⟩:=aI e8
   have he:=aC he
   have base:∀ w0 V w u,MR w0 V h w->den V x u->V.S (x.n / 64 / 1048576 / 1048576)/\∃ cap,u= .slice (some ⟨V.ρ (x.n / 64 / 1048576 / 1048576),x.n / 64 / 1048576 % 1048576,none⟩) (x.n / 64 % 1048576) cap/\x.n / 64 % 1048576<=cap/\
     x.n / 64 / 1048576 % 1048576+cap*V.ε (x.n / 64 / 1048576 / 1048576)=V.σ (x.n / 64 / 1048576 / 1048576)/\V.ε (x.n / 64 / 1048576 / 1048576)=sz/\0<sz/\rows.length*sz<=V.σ (x.n / 64 / 1048576 / 1048576):=fun w0 V w u hm hd=>by
    obtain ⟨hb,cap,hu,h3,_,h5⟩:=(gT t).1 hd
    obtain ⟨_,h6,h7,_,h8,_⟩:=hm.rows hb hg hk
    rw [he] at h6
    exact ⟨hb,cap,hu,h3,h5 tc,h6.symm,h6▸h7,h6▸h8⟩
   clear e7 e6 e5 e4 e3 e2 e1 e
   generalize x.n / 64 / 1048576 / 1048576=b at*
   generalize x.n / 64 / 1048576 % 1048576=off at*
   generalize x.n / 64 % 1048576=len at*
   have part:l<q->gZ b (Nat.add off (Nat.mul l sz)) (Nat.sub q l) 0 h k=some r->(∀ w0 V w u,MR w0 V h w->den V x u->∀ cap,off+cap*sz=V.σ b->len<=cap->rows.length*sz<=V.σ b->0<sz->q<=cap)->∃ c,k c h=some r/\∀ w0 V w u,MR w0 V h w->den V x u->∃ ad len cap,u= .slice ad len cap/\q<=cap/\
     den V c (.slice (if cap=l then ad else ad.map (·.add (l*sz))) (q - l) (cap - l)):=fun hlt e hq=>by
    obtain ⟨_,_,c,hc1,hc2⟩:=rJ e (by decide)
    refine ⟨c,hc1,fun w0 V w u hm hd=> ?_⟩
    obtain ⟨hb,cap,hu,h3,h4,h5,h6,h7⟩:=base w0 V w u hm hd
    have hqc:=hq w0 V w u hm hd cap (by rw [<-h5];exact h4) h3 h7 h6
    refine ⟨_,_,cap,hu,hqc,?_⟩
    rw [if_neg (by omega),EP]
    refine hc2 V (cap - l) hb (by show q - l<=cap - l;omega) (fun hh=>by cases hh) fun _=> ?_
    show off+l*sz+(cap - l)*V.ε b=V.σ b
    rw [h5]
    rw [h5] at h4
    rw [<-h4,Nat.add_assoc,<-Nat.add_mul,show l+(cap - l)=cap by omega]
   rcases aF e9 with ⟨t1,e10⟩|⟨t1,e10⟩
   ·have t1:=bI t1
    have hlq:l=q:=by omega
    obtain ⟨t2,e11⟩:=aI e10
    have t2:=bI t2
    rcases aF e11 with ⟨t3,e12⟩|⟨t3,e12⟩
    ·have t3:=aC t3
     obtain ⟨_,_,c,hc1,hc2⟩:=rJ e12 (by decide)
     refine ⟨c,hc1,fun w0 V w u hm hd=> ?_⟩
     obtain ⟨hb,cap,hu,h3,h4,_⟩:=base w0 V w u hm hd
     refine ⟨_,_,cap,hu,by omega,?_⟩
     have hl0:l=0:=by omega
     rw [hl0,t3]
     simp only [Nat.zero_mul,Nat.sub_zero,EP,Nat.add_zero,ite_self]
     exact hc2 V cap hb (Nat.zero_le _) (fun hh=>by cases hh) fun _=>h4
    ·refine ⟨_,e12,fun w0 V w u hm hd=> ?_⟩
     obtain ⟨hb,cap,hu,h3,_⟩:=base w0 V w u hm hd
     exact k11 V u _ _ _ hu hlq (by omega)
   ·have t1:=tJ t1
    rcases aF e10 with ⟨t2,e11⟩|⟨t2,e11⟩
    ·have t2:=bI t2
     exact part t1 e11 fun _ _ _ _ _ _ cap _ h2 _ _=>by omega
    ·obtain ⟨t3,e12⟩:=aI e11
     have t3:=bI t3
     rw [lM] at t3
     refine part t1 e12 fun w0 V w u _ _ cap h1 _ h3 h4=> ?_
     have t3:off+q*sz<=rows.length*sz:=t3
     have:q*sz<=cap*sz:=by omega
     exact Nat.le_of_mul_le_mul_right this h4
  ·obtain ⟨t2,e8⟩:=aI e7
   have t2:=bI t2
   have tc:x.n / 32 % 2=1:=by have:=gq tc;omega
   have base:∀ V u,den V x u->V.S (x.n / 64 / 1048576 / 1048576)/\u= .slice (some ⟨V.ρ (x.n / 64 / 1048576 / 1048576),x.n / 64 / 1048576 % 1048576,none⟩) (x.n / 64 % 1048576) (x.n / 64 % 1048576):=fun V u hd=>by
    obtain ⟨hb,cap,hu,_,h4,_⟩:=(gT t).1 hd
    rw [h4 tc] at hu
    exact ⟨hb,hu⟩
   generalize x.n / 64 / 1048576 / 1048576=b at*
   generalize x.n / 64 / 1048576 % 1048576=off at*
   generalize x.n / 64 % 1048576=len at*
   rcases aF e8 with ⟨t3,e9⟩|⟨t3,e9⟩
   ·have t3:=bI t3
    refine ⟨_,e9,fun w0 V w u hm hd=> ?_⟩
    obtain ⟨hb,hu⟩:=base V u hd
    exact k11 V u _ _ _ hu (by omega) t2
   ·have t3:=tJ t3
    obtain ⟨t4,e10⟩:=aI e9
    have t4:=aC t4
    obtain ⟨_,_,c,hc1,hc2⟩:=rJ e10 (by decide)
    refine ⟨c,hc1,fun w0 V w u hm hd=> ?_⟩
    obtain ⟨hb,hu⟩:=base V u hd
    refine ⟨_,_,len,hu,by omega,?_⟩
    rw [if_neg (by omega),EP]
    exact hc2 V (len - l) hb (by show q - l<=len - l;omega) (fun _=>by show len - l=q - l;omega) (fun hh=>by cases hh)
theorem akw {sz:Nat} {x lo hi mx:X} {k:Kx} {r} (e:EG sz x lo hi mx h k=some r):lo.n % 32=0/\hi.n % 32=0/\mx.n % 32=0/\lo.n / 32<=hi.n / 32/\hi.n / 32<=mx.n / 32/\∃ c,k c h=some r/\∀ V u,den V x u->∃ ad len cap,u= .slice ad len cap/\mx.n / 32<=cap/\
  den V c (.slice (if mx.n / 32=lo.n / 32 then ad else ad.map (·.add (lo.n / 32*sz))) (hi.n / 32 - lo.n / 32) (mx.n / 32 - lo.n / 32)):=by
 obtain ⟨h1,e1⟩:=xN e
 obtain ⟨h2,e2⟩:=xN e1
 obtain ⟨h3,e4⟩:=xN e2
 generalize lo.n / 32=l at*
 generalize hi.n / 32=q at*
 generalize mx.n / 32=m at*
 rcases aF e4 with ⟨t,e5⟩|⟨_,e5⟩
 ·obtain ⟨t2,e6⟩:=aI e5
  have t2:l+(q+m)=0:=aC t2
  have hl0:l=0:=by omega
  have hq0:q=0:=by omega
  have hm0:m=0:=by omega
  subst hl0;subst hq0;subst hm0
  refine ⟨h1,h2,h3,Nat.le_refl _,Nat.le_refl _,_,e6,fun V u hd=>⟨none,0,0,(jX (by rw [aC t])).1 hd,Nat.le_refl _,?_⟩⟩
  simp only [if_true,Nat.sub_zero]
  exact (jX (x:=aK 6) rfl).2 rfl
 ·obtain ⟨t,e6⟩:=aI e5
  have e7:=vv e6
  have t:=bJ t
  obtain ⟨t2,e8⟩:=aI e7
  have t2:=bI t2
  have base:∀ V u,den V x u->V.S (x.n / 64 / 1048576 / 1048576)/\∃ cap,u= .slice (some ⟨V.ρ (x.n / 64 / 1048576 / 1048576),x.n / 64 / 1048576 % 1048576,none⟩) (x.n / 64 % 1048576) cap/\x.n / 64 % 1048576<=cap:=fun V u hd=>by
   obtain ⟨hb,cap,hu,h4,_⟩:=(gT t).1 hd
   exact ⟨hb,cap,hu,h4⟩
  clear e7 e6 e5 e4 e2 e1 e
  generalize x.n / 64 / 1048576 / 1048576=b at*
  generalize x.n / 64 / 1048576 % 1048576=off at*
  generalize x.n / 64 % 1048576=len at*
  rcases aF e8 with ⟨tm,e9⟩|⟨tm,e9⟩
  ·have tm:=aC tm
   subst tm
   rcases aF e9 with ⟨t3,e10⟩|⟨t3,e10⟩
   ·obtain ⟨t4,e11⟩:=aI e10
    have t4:=aC t4
    subst t4
    obtain ⟨_,_,c,hc1,hc2⟩:=rJ e11 (by decide)
    refine ⟨h1,h2,h3,Nat.le_refl _,Nat.le_refl _,c,hc1,fun V u hd=> ?_⟩
    obtain ⟨hb,cap,hu,h4⟩:=base V u hd
    refine ⟨_,_,cap,hu,by omega,?_⟩
    rw [if_pos rfl,Nat.sub_self]
    exact hc2 V 0 hb (Nat.le_refl _) (fun _=>rfl) (fun hh=>by cases hh)
   ·have t3:=tJ t3
    obtain ⟨_,_,c,hc1,hc2⟩:=rJ e10 (by decide)
    refine ⟨h1,h2,h3,by omega,Nat.le_refl _,c,hc1,fun V u hd=> ?_⟩
    obtain ⟨hb,cap,hu,h4⟩:=base V u hd
    refine ⟨_,_,cap,hu,by omega,?_⟩
    rw [if_neg (by omega),EP]
    exact hc2 V (q - l) hb (Nat.le_refl _) (fun _=>rfl) (fun hh=>by cases hh)
  ·obtain ⟨t3,e10⟩:=aI e9
   obtain ⟨t4,e11⟩:=aI e10
   refine ⟨h1,h2,h3,bI t3,bI t4,_,e11,fun V u hd=> ?_⟩
   obtain ⟨hb,cap,hu,h4⟩:=base V u hd
   exact ⟨_,_,cap,hu,by omega,(O1 (x:=aK 16) rfl).2 ⟨_,_,_,rfl⟩⟩
end
end
end Go.M
namespace Go.M
open Go
noncomputable section
variable [aY]
section
variable {P:Program} {fl:Nat} {o:Oper} {h:Hp}
theorem xO (w:World) (ob:Obj):(w.alloc ob).heap[w.heap.size]? =some ob:=heap_alloc_new w ob
theorem pV (w:World) (ob:Obj) {k:Nat} (hk:k<w.heap.size):(w.alloc ob).heap[k]? =w.heap[k]? :=Go.RowKit.Below.heap_alloc w ob k hk
theorem pW (w:World) (ob:Obj):(w.alloc ob).heap.size=w.heap.size+1:=by simp
theorem QI {V:Vw} {l:List X} {vs:List Value} (hl:aU V l vs) (h1:∀ v ∈ vs,one v) (n:Nat) (o:Value) (hn:n=32*l.length+2):bg V l.length [⟨n,l,o⟩] vs.toArray:=by
 intro q row hq
 cases q with
 |zero=>
  simp at hq
  subst hq
  refine ⟨hn,rfl,fun j c hj=> ?_⟩
  obtain ⟨v,h2,h3⟩:=mJ hl hj
  exact ⟨v,by simpa using h2,EL h1 h2,h3⟩
 |succ q=>simp at hq
theorem EQ {blk:X} {k:Kx} {r} (e:tC blk h k=some r):h.n<65536/\∃ x,k x (ji h blk)=some r/\∀ V,V.S h.n->den V x (.pointer (some ⟨V.ρ h.n,0,none⟩)):=by
 obtain ⟨h1,e1⟩:=Cq e
 exact ⟨h1,_,e1,fun V hb=>JZ hb (by decide) (by show 33554432*h.n+7=_;omega)⟩
theorem J4 {w0:World} {V:Vw} {w:World} {l:List X} {vs:List Value} {n:Nat} {rn:Nat} {ro bo:Value} {ety:TypeId} {x:X} (hm:MR w0 V h w) (hn:h.n<65536) (hl:aU V l vs) (h1:∀ v ∈ vs,one v) (h0:0<l.length) (hN:n=32*l.length+1) (hrn:rn=32*l.length+2)
  (hx:∀ V,V.S h.n->den V x (.pointer (some ⟨V.ρ h.n,0,none⟩))) (cells:Array Value) (hc:cells=vs.toArray) (fl:Nat):
  dw RM P w0 fl V h w x (ji h ⟨n,[⟨rn,l,ro⟩],bo⟩) (.ok (.value (.pointer (some ⟨w.heap.size,0,none⟩))) (w.alloc (.cells cells ety))):=by
 subst hc;subst hN
 have hE:Ext V (bL V h.n w.heap.size vs.length l.length):=vg hm.xJ
 have hB:bH (bL V h.n w.heap.size vs.length l.length) (w.alloc (.cells vs.toArray ety)) h.n ⟨32*l.length+1,[⟨rn,l,ro⟩],bo⟩:=by
  unfold bH
  simp only [show (32*l.length+1) % 32=1 by omega]
  rw [gF,rD,rE]
  refine ⟨vs.toArray,ety,xO w _,by simp,by omega,h0,by rw [jh hl];simp,QI (hl.mono hE) h1 _ _ hrn⟩
 obtain ⟨h2,h3⟩:=hm.alloc (w':=w.alloc (.cells vs.toArray ety)) hn (g:=w.heap.size) (s:=vs.length) (e:=l.length) (Nat.le_refl _) (by rw [pW];omega) (fun k hk=>pV w _ hk) rfl rfl rfl hB fl
 refine ⟨_,_,_,.inl rfl,h2,?_,h3⟩
 have:=hx (bL V h.n w.heap.size vs.length l.length) (.inr rfl)
 rw [gF] at this
 exact this
theorem zV {V:Vw}:∀ {zs:List Value},(∀ v ∈ zs,one v)->aU V (zs.map dK) zs
 |[],_=>dA.2 rfl
 |v::zs,h=>dz.2 ⟨v,zs,rfl,mR (h v (by simp)),zV fun u hu=>h u (by simp [hu])⟩
theorem mW {zs:List Value} (h:zs.all Value.oneCell'=true):∀ v ∈ zs,one v:=fun v hv=>List.all_eq_true.1 h v hv
theorem J5 {el:TypeId} {zs:List Value} {ev:Operand->Value} {w:World} (hz:Go.Eng.zerosOf P el=some zs) (ho:o.op= .alloc el):
  (execOp ev o).run P w= .ok (.value (.pointer (some ⟨w.heap.size,0,none⟩))) (w.alloc (.cells zs.toArray el)):=by
 obtain ⟨i,z,hi,hiz,rfl⟩:=Go.Eng.sH hz
 simp [execOp,ho,Instr.alloc,zeroValue,typeInfo,hi,hiz,newVar,newRow]
theorem akx {el:TypeId} {zs:List Value} {n:Nat} (hz:Go.Eng.zerosOf P el=some zs) (ho:o.op= .alloc el) (h1:zs.all Value.oneCell'=true) (h0:0<zs.length) (hN:n=32*zs.length+1):
  ig P fl o [] h (tC ⟨n,[⟨32*zs.length+2,zs.map dK,oZ⟩],oZ⟩):=fun k r e=>by
 obtain ⟨hn,x,e1,hx⟩:=EQ e
 refine ⟨x,_,e1,.al _ _ _ hn,fun _ w0 V w ev hm hd _=> ?_⟩
 rw [J5 hz ho]
 exact J4 hm hn (zV (mW h1)) (mW h1) (by simpa using h0) (by simpa using hN) (by simp) hx _ rfl fl
theorem Cu {y:X} {k:List X->R} {r} (e:oo y k=some r):∃ l,k l=some r/\∀ V u,den V y u->aU V l u.cells.toList/\∀ v ∈ u.cells.toList,one v:=by
 have e':=e
 unfold oo at e'
 rw [fo] at e'
 rcases aF e' with ⟨t,e1⟩|⟨t,e1⟩
 ·refine ⟨_,e1,fun V u hd=> ?_⟩
  obtain ⟨vs,rfl,h1,h2,_⟩:=(lJ (bJ t)).1 hd
  exact ⟨by simpa [Value.cells] using h2,by simpa [Value.cells] using h1⟩
 ·rcases aF e1 with ⟨_,e2⟩|⟨t3,e2⟩
  ·cases e2
  ·rcases aF e2 with ⟨_,e3⟩|⟨t4,e3⟩
   ·cases e3
   ·refine ⟨_,e3,fun V u hd=> ?_⟩
    have h1:one u:=xA hd (by rw [<-jD];exact gq t) (by rw [<-jD];exact gq t3) (by rw [<-jD];exact gq t4)
    have h2:u.cells= #[u]:=by
     unfold one at h1
     cases u<;>first|rfl|(simp [Value.oneCell'] at h1)
    rw [h2]
    refine ⟨dz.2 ⟨u,[],rfl,?_,dA.2 rfl⟩,by simpa using h1⟩
    cases y;exact hd
theorem aky {el:TypeId} {a:Operand} {y:X} (ho:o.op= .box el a):ig P fl o [(a,y)] h (P7 y):=fun k r e=>by
 obtain ⟨l,e1,hl⟩:=Cu e
 have e2:ah (Nat.beq (di l) 0) none (tC ⟨Nat.add (Nat.mul 32 (di l)) 1,[⟨Nat.succ (Nat.add (Nat.mul 32 (di l)) 1),l,oZ⟩],oZ⟩ h k)=some r:=e1
 rcases aF e2 with ⟨_,e3⟩|⟨t,e3⟩
 ·cases e3
 ·rw [lM] at t e3
  obtain ⟨hn,x,e4,hx⟩:=EQ e3
  refine ⟨x,_,e4,.al _ _ _ hn,fun _ w0 V w ev hm hd _=> ?_⟩
  obtain ⟨h1,h2⟩:=hl V _ (hd (a,y) (by simp))
  have hrun:(execOp ev o).run P w= .ok (.value (.pointer (some ⟨w.heap.size,0,none⟩))) (w.alloc (.cells (ev a).cells el)):=by
   simp [execOp,ho,Instr.box,newVar,newRow]
  rw [hrun]
  exact J4 hm hn h1 h2 (Nat.pos_of_ne_zero (gq t)) rfl rfl hx _ (by simp) fl
theorem J6 {ty:TypeId} {a:Operand} {sz g off:Nat} {ev:Operand->Value} {w:World} {vs:List Value} (ha:Go.Eng.aggP P ty=some true) (hs:Go.Eng.sizeP P ty=some sz) (ho:o.op= .load ty a) (hx:ev a= .pointer (some ⟨g,off,none⟩))
  (hl:vs.length=sz) (hc:∀ j v,vs[j]? =some v->w.cell? ⟨g,off+j,none⟩=some v):(execOp ev o).run P w= .ok (.value (.agg vs.toArray)) w:=by
 have hL:=run_loadCells_list (P:=P) w ⟨g,off,none⟩ vs (fun j v hj=>by
  rw [Ct];exact hc j v hj)
 subst hl
 simp only [execOp,ho,hx,Instr.loadAt,Instr.sureAddr,loadVar,Sem.run_bind,Go.Eng.jR ha,Go.Eng.cu hs,Result.andThen_ok,if_true,hL,Sem.run_pure]
theorem QJ {ty:TypeId} {a:Operand} {g off:Nat} {ev:Operand->Value} {w:World} {v:Value} (ha:Go.Eng.aggP P ty=some false) (ho:o.op= .load ty a) (hx:ev a= .pointer (some ⟨g,off,none⟩))
  (hc:w.cell? ⟨g,off,none⟩=some v):(execOp ev o).run P w= .ok (.value v) w:=by
 simp [execOp,ho,hx,Instr.loadAt,Instr.sureAddr,loadVar,Go.Eng.jR ha,hc]
theorem QK {V:Vw} {e:Nat} {rows:List X} {cells:Array Value} {q:Nat} {row:X} (hR:bg V e rows cells) (hq:rows[q]? =some row) (j m:Nat) (hj:j+m<=e):
  ∃ vs:List Value,vs.length=m/\(∀ i v,vs[i]? =some v->cells[q*e+(j+i)]? =some v)/\(∀ v ∈ vs,one v)/\aU V ((row.l.drop j).take m) vs:=by
 obtain ⟨_,h2,h3⟩:=hR q row hq
 refine ⟨(List.range m).map fun i=>(cells[q*e+(j+i)]?).getD undef,by simp,fun i v hv=> ?_,fun v hv=> ?_,JB (by simp;omega) fun i x v hx hv=> ?_⟩
 ·rw [List.getElem?_map] at hv
  rcases Nat.lt_or_ge i m with hi|hi
  ·rw [List.getElem?_range hi] at hv
   simp at hv
   have hlt:j+i<row.l.length:=by omega
   obtain ⟨u,h4,h5,h6⟩:=h3 (j+i) _ (List.getElem?_eq_getElem hlt)
   rw [h4] at hv ⊢
   simpa using hv
  ·rw [List.getElem?_eq_none (by simpa using hi)] at hv;simp at hv
 ·rw [List.mem_map] at hv
  obtain ⟨i,hi,rfl⟩:=hv
  have hi:=List.mem_range.1 hi
  have hlt:j+i<row.l.length:=by omega
  obtain ⟨u,h4,h5,h6⟩:=h3 (j+i) _ (List.getElem?_eq_getElem hlt)
  rw [h4];exact h5
 ·rw [List.getElem?_take] at hx
  split at hx
  ·rename_i hi
   rw [List.getElem?_drop] at hx
   obtain ⟨u,h4,h5,h6⟩:=h3 (j+i) _ hx
   rw [List.getElem?_map,List.getElem?_range hi] at hv
   simp only [Option.map_some,Option.some.injEq] at hv
   rw [h4] at hv
   simp only [Option.getD_some] at hv
   subst hv
   exact h6
  ·cases hx
theorem akz {ag:Bool} {ty:TypeId} {sz:Nat} {a:Operand} {x:X} (ha:Go.Eng.aggP P ty=some ag) (hs:Go.Eng.sizeP P ty=some sz) (ho:o.op= .load ty a):ig P fl o [(a,x)] h (xD ag sz x):=fun k r e=>by
 obtain ⟨t,e1⟩:=xM e
 obtain ⟨bn,rows,hg,hk,e2⟩:=pU e1
 generalize hbe:x.n / 32 / 1048576=b at*
 generalize hoe:x.n / 32 % 1048576=off at*
 have e3:(kR (Nat.div off (bn / 32))).f rows (fun row=>opn row fun rn cells _=>
  ah ag (ah (Nat.beq sz (bn / 32)) (ah (Nat.beq (Nat.mod off (bn / 32)) 0) (k ⟨rn,cells,oZ⟩ h) none) ((rz (Nat.mod off (bn / 32))).f cells fun c=>(takeB sz).f c fun c=>k ⟨Nat.add (Nat.mul 32 sz) 2,c,oZ⟩ h))
   ((kR (Nat.mod off (bn / 32))).f cells fun c=>fF c h k))=some r:=e2
 obtain ⟨row,hq,e4⟩:=tH e3
 rw [fo] at e4
 have hqj:∀ E,bn / 32=E->off=Nat.div off E*E+Nat.mod off E:=fun E _=>(Nat.div_add_mod' off E).symm
 have base:∀ w0 V w (ev:Operand->Value),MR w0 V h w->(∀ q ∈ [(a,x)],den V q.2 (ev q.1))->V.S b/\ev a= .pointer (some ⟨V.ρ b,off,none⟩)/\∃ cells ty,w.heap[V.ρ b]? =some (.cells cells ty (0,0))/\bg V (bn / 32) rows cells:=fun w0 V w ev hm hd=>by
  obtain ⟨hb,hx⟩:=(mK t).1 (hd (a,x) (by simp))
  rw [hbe,hoe] at hx
  rw [hbe] at hb
  obtain ⟨_,h2,_,_,_,cells,ty,h5,_,h6⟩:=hm.rows hb hg hk
  exact ⟨hb,hx,cells,ty,h5,by rw [h2];exact h6⟩
 cases ag with
 |true=>
  have e5:ah (Nat.beq sz (bn / 32)) (ah (Nat.beq (Nat.mod off (bn / 32)) 0) (k ⟨row.n,row.l,oZ⟩ h) none) ((rz (Nat.mod off (bn / 32))).f row.l fun c=>(takeB sz).f c fun c=>k ⟨Nat.add (Nat.mul 32 sz) 2,c,oZ⟩ h)=some r:=e4
  rcases aF e5 with ⟨t1,e6⟩|⟨t1,e6⟩
  ·have t1:=aC t1
   obtain ⟨t2,e7⟩:=aI e6
   have t2:=aC t2
   refine ⟨_,h,e7,.refl _ _,fun _ w0 V w ev hm hd _=> ?_⟩
   obtain ⟨hb,hx,cells,cty,h5,hR⟩:=base w0 V w ev hm hd
   obtain ⟨hrn,hrl,_⟩:=hR _ row hq
   obtain ⟨vs,h6,h7,h8,h9⟩:=QK hR hq 0 sz (by omega)
   have hoff:=hqj _ rfl
   rw [t2] at hoff
   rw [J6 ha hs ho hx h6 fun j v hj=>by
    rw [Go.Eng.lC h5,hoff,Nat.add_assoc];exact h7 j v hj]
   rw [List.drop_zero,List.take_of_length_le (by omega)] at h9
   exact .pure hm (zU (by omega) h8 h9)
  ·obtain ⟨h1,e7⟩:=EH e6
   obtain ⟨h2,e8⟩:=Cj e7
   refine ⟨_,h,e8,.refl _ _,fun _ w0 V w ev hm hd _=> ?_⟩
   obtain ⟨hb,hx,cells,cty,h5,hR⟩:=base w0 V w ev hm hd
   obtain ⟨hrn,hrl,_⟩:=hR _ row hq
   rw [List.length_drop] at h2
   obtain ⟨vs,h6,h7,h8,h9⟩:=QK hR hq (Nat.mod off (bn / 32)) sz (by omega)
   have hoff:=hqj _ rfl
   rw [J6 ha hs ho hx h6 fun j v hj=>by
    rw [Go.Eng.lC h5,show off+j=Nat.div off (bn / 32)*(bn / 32)+(Nat.mod off (bn / 32)+j) by rw [<-Nat.add_assoc,<-hoff]];exact h7 j v hj]
   exact .pure hm (zU (by rw [h6];rfl) h8 h9)
 |false=>
  have e5:(kR (Nat.mod off (bn / 32))).f row.l (fun c=>fF c h k)=some r:=e4
  obtain ⟨c,hc,e6⟩:=tH e5
  rw [rF] at e6
  refine ⟨c,h,e6,.refl _ _,fun _ w0 V w ev hm hd _=> ?_⟩
  obtain ⟨hb,hx,cells,cty,h5,hR⟩:=base w0 V w ev hm hd
  obtain ⟨_,_,h7⟩:=hR _ row hq
  obtain ⟨u,h8,_,h10⟩:=h7 _ _ hc
  have hoff:=hqj _ rfl
  rw [QJ ha ho hx (v:=u) (by rw [Go.Eng.lC h5,hoff];exact h8)]
  exact .pure hm h10
theorem run_store {ty:TypeId} {a b:Operand} {sz g off:Nat} {ev:Operand->Value} {w:World} {cells:Array Value} {ety:TypeId} (hs:Go.Eng.sizeP P ty=some sz) (ho:o.op= .store ty a b) (hx:ev a= .pointer (some ⟨g,off,none⟩))
  (hsz:(ev b).cells.size=sz) (h1:∀ v ∈ (ev b).cells.toList,one v) (hg:w.heap[g]? =some (.cells cells ety (0,0))) (hfit:off+sz<=cells.size):
  (execOp ev o).run P w= .ok .skip (w.setRow g (Go.Eng.pasted cells off (ev b).cells)):=by
 have hrun:=Go.Eng.G7 (P:=P) (w:=w) (off:=off) hs hsz (fun i v hi=>h1 v (by
  rw [List.mem_iff_getElem?];exact ⟨i,by simpa using hi⟩)) hg hfit
 simp only [execOp,ho,hx,Instr.storeAt,Instr.sureAddr,Sem.run_bind,Sem.run_pure,Result.andThen_ok,hrun]
theorem bg.paste {V:Vw} {e q j:Nat} {rows:List X} {cells vs:Array Value} {ys:List X} {row:X} (hR:bg V e rows cells) (hq:rows[q]? =some row) (hj:j+ys.length<=row.l.length) (hl:aU V ys vs.toList) (h1:∀ v ∈ vs.toList,one v) (hfit:q*e+j+vs.size<=cells.size) (o:Value):
  bg V e (rows.set q ⟨row.n,row.l.take j++(ys++row.l.drop (j+ys.length)),o⟩) (Go.Eng.pasted cells (q*e+j) vs):=by
 have hlen:vs.size=ys.length:=by have:=jh hl;simpa using this
 obtain ⟨hrn,hrl,hrc⟩:=hR q row hq
 have xP:q<rows.length:=(List.getElem?_eq_some_iff.1 hq).1
 intro p row' hp
 rw [List.getElem?_set] at hp
 split at hp
 ·rename_i xQ
  subst xQ
  first|(rw [if_pos xP] at hp)|skip
  cases hp
  refine ⟨hrn,by rw [<-hrl];exact zR hj,fun i c hi=> ?_⟩
  have hi:(row.l.take j++(ys++row.l.drop (j+ys.length)))[i]? =some c:=hi
  rw [JR hj] at hi
  rw [Go.Eng.iC _ _ _ hfit,hlen]
  by_cases c1:i<j
  ·rw [if_pos c1] at hi
   rw [if_pos (by omega)]
   exact hrc i c hi
  ·rw [if_neg c1] at hi
   rw [if_neg (by omega)]
   by_cases c2:i<j+ys.length
   ·rw [if_pos c2] at hi
    rw [if_pos (by omega)]
    obtain ⟨v,h2,h3⟩:=mJ hl hi
    rw [show q*e+i - (q*e+j)=i - j by omega]
    exact ⟨v,by simpa using h2,EL h1 h2,h3⟩
   ·rw [if_neg c2] at hi
    rw [if_neg (by omega)]
    exact hrc i c hi
 ·rename_i xQ
  obtain ⟨g1,g2,g3⟩:=hR p row' hp
  refine ⟨g1,g2,fun i c hi=> ?_⟩
  obtain ⟨u,g4,g5⟩:=g3 i c hi
  refine ⟨u,?_,g5⟩
  rw [Go.Eng.iC _ _ _ hfit,hlen]
  have hil:i<e:=by rw [<-g2];exact (List.getElem?_eq_some_iff.1 hi).1
  rcases Nat.lt_or_gt_of_ne xQ with hlt|hgt
  ·have:(q+1)*e<=p*e:=Nat.mul_le_mul_right _ hlt
   rw [Nat.add_mul,Nat.one_mul] at this
   rw [if_neg (by omega),if_neg (by omega)]
   exact g4
  ·have:(p+1)*e<=q*e:=Nat.mul_le_mul_right _ hgt
   rw [Nat.add_mul,Nat.one_mul] at this
   rw [if_pos (by omega)]
   exact g4
theorem MR.turn {w0:World} {V:Vw} {w w':World} {b bn:Nat} {rows rows':List X} {bo o':Value} {cells':Array Value} {ety:TypeId} (hm:MR w0 V h w) (hb:V.S b) (hf:fl<=b) (hg:gH h b=⟨bn,rows,bo⟩) (hk:bn % 32=1\/bn % 32=2)
  (hw:∀ k,k≠V.ρ b->w'.heap[k]? =w.heap[k]?) (hsz:w'.heap.size=w.heap.size) (hos:w'.os=w.os) (htp:w'.tape=w.tape) (hou:w'.output=w.output)
  (hrow:w'.heap[V.ρ b]? =some (.cells cells' ety (0,0))) (hcs:cells'.size=V.σ b) (hrl:rows'.length=rows.length) (hR:bg V (V.ε b) rows' cells'):
  MR w0 V (iF h b ⟨bn,rows',o'⟩) w'/\Stp fl V h w V w':=by
 obtain ⟨h1,h2,h3,h4,h5,cells,ty,h6,h7,h8⟩:=hm.rows hb hg hk
 refine hm.write hb hf hw hsz hos htp hou h1 ?_
 unfold bH
 rcases hk with hk|hk
 ·simp only [hk]
  exact ⟨cells',ety,hrow,hcs,h2,h3,by rw [hrl];exact h4 hk,hR⟩
 ·simp only [hk]
  exact ⟨cells',ety,hrow,hcs,h2,h3,by rw [hrl];exact h5,hR⟩
theorem akA {ty:TypeId} {sz:Nat} {a b:Operand} {x y:X} (hs:Go.Eng.sizeP P ty=some sz) (ho:o.op= .store ty a b) (hfl:fl=h.fl):ig P fl o [(a,x),(b,y)] h (Cb sz x y):=fun k r e=>by
 subst hfl
 obtain ⟨t,e1⟩:=xM e
 obtain ⟨ys,e2,hys⟩:=Cu e1
 obtain ⟨t1,e3⟩:=aI e2
 have t1:=aC t1
 rw [lM] at t1
 obtain ⟨bn,rows,hg,hk,e4⟩:=pU e3
 generalize hbe:x.n / 32 / 1048576=bb at*
 generalize hoe:x.n / 32 % 1048576=off at*
 have e5:(kR (Nat.div off (bn / 32))).f rows (fun row=>opn row fun rn cells _=>
  (jZ (Nat.mod off (bn / 32))).f cells ys fun cells=>(tq (Nat.div off (bn / 32))).f rows ⟨rn,cells,oZ⟩ fun rows=>j6 bb ⟨bn,rows,oZ⟩ h fun h=>k xU h)=some r:=e4
 obtain ⟨row,hq,e6⟩:=tH e5
 rw [fo] at e6
 obtain ⟨hj,e7⟩:=xH e6
 obtain ⟨xP,e8⟩:=EI e7
 obtain ⟨hfl,hb',e9⟩:=xI e8
 refine ⟨xU,_,e9,.put hfl hb',fun _ w0 V w ev hm hd _=> ?_⟩
 obtain ⟨hb,hx⟩:=(mK t).1 (hd (a,x) (by simp))
 rw [hbe,hoe] at hx
 rw [hbe] at hb
 obtain ⟨hl,h1⟩:=hys V _ (hd (b,y) (by simp))
 obtain ⟨_,h2,h3,h4,h5,cells,cty,h6,h7,hR⟩:=hm.rows hb hg hk
 rw [h2] at e9 e8 e7 e6 e5 e4 hj xP hq ⊢
 have hoff:off=Nat.div off (V.ε bb)*V.ε bb+Nat.mod off (V.ε bb):=(Nat.div_add_mod' off _).symm
 have hcl:(ev b).cells.size=sz:=by have:=jh hl;rw [t1] at this;simpa using this
 obtain ⟨_,hrl,_⟩:=hR _ row hq
 have hfit:off+sz<=cells.size:=by
  rw [h7]
  have:(Nat.div off (V.ε bb)+1)*V.ε bb<=rows.length*V.ε bb:=Nat.mul_le_mul_right _ xP
  rw [Nat.add_mul,Nat.one_mul] at this
  omega
 rw [run_store hs ho hx hcl h1 h6 hfit]
 have hpr:=hR.paste hq hj hl h1 (by rw [hcl,<-hoff];exact hfit) oZ
 rw [<-hoff] at hpr
 have hrow:=setRow_heap w (V.ρ bb) cells (Go.Eng.pasted cells off (ev b).cells) cty (0,0) h6
 obtain ⟨h8,h9⟩:=hm.turn (fl:=h.fl) (w':=w.setRow (V.ρ bb) (Go.Eng.pasted cells off (ev b).cells)) (o':=oZ) hb hfl hg hk (fun k hk=>Go.Eng.oP w _ k _ hk) (by simp) rfl rfl rfl hrow (by rw [Go.Eng.jb _ _ _ (by rw [hcl];exact hfit),h7]) (by simp) hpr
 exact ⟨undef,_,V,.inr ⟨rfl,rfl⟩,h8,mU,h9⟩
end
end
end Go.M
namespace Go.M
open Go
noncomputable section
variable [aY]
section
variable {P:Program} {fl:Nat} {o:Oper} {h:Hp}
theorem bg.len {V:Vw} {e q:Nat} {rows:List X} {cells:Array Value} {row:X} (hR:bg V e rows cells) (hq:rows[q]? =some row):row.l.length=e:=(hR q row hq).2.1
theorem bg.sub {V:Vw} {e q n:Nat} {rows:List X} {cells:Array Value} (hR:bg V e rows cells) (he:0<e) (hn:q+n<=rows.length):
  ∃ vals:List Value,vals.length=n*e/\(∀ j v,vals[j]? =some v->cells[q*e+j]? =some v)/\(∀ v ∈ vals,one v)/\bg V e ((rows.drop q).take n) vals.toArray:=by
 have key:∀ k j,k<n->j<e->∃ u,cells[q*e+(k*e+j)]? =some u/\one u:=fun k j hk hj=>by
  have hlt:q+k<rows.length:=by omega
  obtain ⟨_,h2,h3⟩:=hR (q+k) _ (List.getElem?_eq_getElem hlt)
  obtain ⟨u,h4,h5,_⟩:=h3 j _ (List.getElem?_eq_getElem (by rw [h2];exact hj))
  refine ⟨u,?_,h5⟩
  rw [<-h4,Nat.add_mul,Nat.add_assoc]
 have key2:∀ j,j<n*e->∃ u,cells[q*e+j]? =some u/\one u:=fun j hj=>by
  have d1:j / e<n:=Nat.div_lt_of_lt_mul (by rw [Nat.mul_comm];exact hj)
  have:=key (j / e) (j % e) d1 (Nat.mod_lt _ he)
  rwa [Nat.div_add_mod'] at this
 have hget:∀ j,j<n*e->((List.range (n*e)).map fun j=>(cells[q*e+j]?).getD undef)[j]? =cells[q*e+j]? :=fun j hj=>by
  rw [List.getElem?_map,List.getElem?_range hj]
  obtain ⟨u,hu,_⟩:=key2 j hj
  simp [hu]
 refine ⟨(List.range (n*e)).map fun j=>(cells[q*e+j]?).getD undef,by simp,fun j v hv=> ?_,fun v hv=> ?_,fun k row hk=> ?_⟩
 ·have hj:j<n*e:=by simpa using (List.getElem?_eq_some_iff.1 hv).1
  rw [hget j hj] at hv;exact hv
 ·rw [List.mem_map] at hv
  obtain ⟨j,hj,rfl⟩:=hv
  obtain ⟨u,hu,h1⟩:=key2 j (List.mem_range.1 hj)
  rw [hu];exact h1
 ·rw [List.getElem?_take] at hk
  split at hk
  ·rename_i hkn
   rw [List.getElem?_drop] at hk
   obtain ⟨h1,h2,h3⟩:=hR (q+k) row hk
   refine ⟨h1,h2,fun j c hj=> ?_⟩
   obtain ⟨u,h4,h5⟩:=h3 j c hj
   refine ⟨u,?_,h5⟩
   have wO:j<e:=by rw [<-h2];exact (List.getElem?_eq_some_iff.1 hj).1
   have hlt:k*e+j<n*e:=by
    have:(k+1)*e<=n*e:=Nat.mul_le_mul_right _ hkn
    rw [Nat.add_mul,Nat.one_mul] at this
    omega
   rw [List.getElem?_toArray,hget _ hlt,<-h4,Nat.add_mul,Nat.add_assoc]
  ·cases hk
theorem bg.nil {V:Vw} {e:Nat} {cells:Array Value}:bg V e [] cells:=fun q row hq=>by simp at hq
theorem bg.append {V:Vw} {e:Nat} {xs ys:List X} {us vs:List Value} (h1:bg V e xs us.toArray) (h2:bg V e ys vs.toArray) (hl:us.length=xs.length*e):bg V e (xs++ys) (us++vs).toArray:=by
 intro q row hq
 rw [List.getElem?_append] at hq
 split at hq
 ·rename_i hlt
  obtain ⟨g1,g2,g3⟩:=h1 q row hq
  refine ⟨g1,g2,fun j c hj=> ?_⟩
  obtain ⟨u,g4,g5⟩:=g3 j c hj
  refine ⟨u,?_,g5⟩
  rw [List.getElem?_toArray] at g4 ⊢
  rw [List.getElem?_append_left (List.getElem?_eq_some_iff.1 g4).1]
  exact g4
 ·rename_i hge
  obtain ⟨g1,g2,g3⟩:=h2 _ row hq
  refine ⟨g1,g2,fun j c hj=> ?_⟩
  obtain ⟨u,g4,g5⟩:=g3 j c hj
  refine ⟨u,?_,g5⟩
  have h5:xs.length*e<=q*e:=Nat.mul_le_mul_right _ (by omega)
  rw [List.getElem?_toArray] at g4 ⊢
  rw [List.getElem?_append_right (by omega),hl,<-g4,Nat.sub_mul]
  congr 1;omega
theorem bg.more {V:Vw} {e:Nat} {xs:List X} {us vs:List Value} (h1:bg V e xs us.toArray):bg V e xs (us++vs).toArray:=fun q row hq=>by
 obtain ⟨g1,g2,g3⟩:=h1 q row hq
 refine ⟨g1,g2,fun j c hj=> ?_⟩
 obtain ⟨u,g4,g5⟩:=g3 j c hj
 refine ⟨u,?_,g5⟩
 rw [List.getElem?_toArray] at g4 ⊢
 rw [List.getElem?_append_left (List.getElem?_eq_some_iff.1 g4).1]
 exact g4
theorem bg.zeros {V:Vw} {e n:Nat} {zs:List Value} {cells:Array Value} {ro:Value} (h1:∀ v ∈ zs,one v) (hl:zs.length=e) (hc:∀ k j,k<n->j<e->cells[k*e+j]? =zs[j]?):bg V e (List.replicate n ⟨32*e+2,zs.map dK,ro⟩) cells:=fun q row hq=>by
 rw [List.getElem?_replicate] at hq
 split at hq
 ·rename_i hqn
  cases hq
  refine ⟨rfl,by simpa using hl,fun j c hj=> ?_⟩
  have hj':j<e:=by rw [<-hl];simpa using (List.getElem?_eq_some_iff.1 hj).1
  obtain ⟨v,h2,h3⟩:=mJ (zV h1 (V:=V)) hj
  exact ⟨v,by rw [hc q j hqn hj'];exact h2,EL h1 h2,h3⟩
 ·cases hq
theorem bg.splice {V:Vw} {e q:Nat} {rows ys:List X} {cells vs:Array Value} (hR:bg V e rows cells) (hY:bg V e ys vs) (hq:q+ys.length<=rows.length) (hs:vs.size=ys.length*e) (hfit:q*e+vs.size<=cells.size):
  bg V e (rows.take q++(ys++rows.drop (q+ys.length))) (Go.Eng.pasted cells (q*e) vs):=by
 intro k row hk
 rw [JR hq] at hk
 have hmul:(q+ys.length)*e=q*e+ys.length*e:=Nat.add_mul _ _ _
 have old:rows[k]? =some row->(k<q\/q+ys.length<=k)->row.n=32*e+2/\row.l.length=e/\∀ (j:Nat) (c:X),row.l[j]? =some c->∃ u,(Go.Eng.pasted cells (q*e) vs)[k*e+j]? =some u/\one u/\den V c u:=fun hk hor=>by
  obtain ⟨g1,g2,g3⟩:=hR k row hk
  refine ⟨g1,g2,fun j c hj=> ?_⟩
  obtain ⟨u,g4,g5⟩:=g3 j c hj
  refine ⟨u,?_,g5⟩
  have wO:j<e:=by rw [<-g2];exact (List.getElem?_eq_some_iff.1 hj).1
  rw [Go.Eng.iC _ _ _ hfit,hs]
  rcases hor with hlt|hge
  ·have:(k+1)*e<=q*e:=Nat.mul_le_mul_right _ hlt
   rw [Nat.add_mul,Nat.one_mul] at this
   rw [if_pos (by omega)];exact g4
  ·have:(q+ys.length)*e<=k*e:=Nat.mul_le_mul_right _ hge
   rw [if_neg (by omega),if_neg (by omega)];exact g4
 by_cases c1:k<q
 ·rw [if_pos c1] at hk;exact old hk (.inl c1)
 ·rw [if_neg c1] at hk
  by_cases c2:k<q+ys.length
  ·rw [if_pos c2] at hk
   obtain ⟨g1,g2,g3⟩:=hY _ row hk
   refine ⟨g1,g2,fun j c hj=> ?_⟩
   obtain ⟨u,g4,g5⟩:=g3 j c hj
   refine ⟨u,?_,g5⟩
   have wO:j<e:=by rw [<-g2];exact (List.getElem?_eq_some_iff.1 hj).1
   have h5:k*e=q*e+(k - q)*e:=by rw [<-Nat.add_mul];congr 1;omega
   have h6:(k - q+1)*e<=ys.length*e:=Nat.mul_le_mul_right _ (by omega)
   rw [Nat.add_mul,Nat.one_mul] at h6
   rw [Go.Eng.iC _ _ _ hfit,hs,if_neg (by omega),if_pos (by omega),<-g4]
   congr 1;omega
  ·rw [if_neg c2] at hk;exact old hk (.inr (by omega))
def Reads (V:Vw) (w:World) (sz:Nat) (rows:List X) (u:Value) (vals:List Value):Prop:=
 ∃ ad cap,u= .slice ad rows.length cap/\vals.length=rows.length*sz/\(ad=none->rows=[])/\(∀ A,ad=some A->∀ j v,vals[j]? =some v->w.cell? (A.add j)=some v)/\(∀ v ∈ vals,one v)/\bg V sz rows vals.toArray
theorem Cv {sz:Nat} {s:X} {k:List X->R} {r} (e:pR sz s h k=some r):∃ rows,k rows=some r/\∀ w0 V w u,MR w0 V h w->den V s u->∃ vals,Reads V w sz rows u vals:=by
 have e':ah (Nat.beq s.n 6) (k []) (ah (Nat.beq s.n 11) (k []) (ah (Nat.beq (Nat.land s.n 31) 8)
  (kS s.n fun b off len _=>ah (Nat.beq len 0) (k []) (kU b h fun _ e rows=>ah (Nat.beq e sz) (ah (Nat.beq (Nat.mod off e) 0) (aJ (Nat.div off e) fun q=>(rz q).f rows fun r=>(takeB len).f r k) none) none)) none))=some r:=e
 rcases aF e' with ⟨t,e1⟩|⟨_,e1⟩
 ·exact ⟨[],e1,fun w0 V w u hm hd=>⟨[],none,0,(jX (by rw [aC t])).1 hd,by simp,fun _=>rfl,fun A hA=>by (cases hA),by simp,.nil⟩⟩
 ·rcases aF e1 with ⟨t,e2⟩|⟨_,e2⟩
  ·refine ⟨[],e2,fun w0 V w u hm hd=> ?_⟩
   obtain ⟨a,c,hu⟩:=(zL (by rw [aC t])).1 hd
   exact ⟨[],some a,c,hu,by simp,fun _=>rfl,fun A hA j v hv=>by simp at hv,by simp,.nil⟩
  ·obtain ⟨t,e3⟩:=aI e2
   have t:=bJ t
   have e4:=vv e3
   rcases aF e4 with ⟨t1,e5⟩|⟨_,e5⟩
   ·have t1:=aC t1
    refine ⟨[],e5,fun w0 V w u hm hd=> ?_⟩
    obtain ⟨hb,cap,hu,_⟩:=(gT t).1 hd
    rw [t1] at hu
    exact ⟨[],_,cap,hu,by simp,fun _=>rfl,fun A hA j v hv=>by simp at hv,by simp,.nil⟩
   ·obtain ⟨bn,rows,hg,hk,e6⟩:=pU e5
    obtain ⟨t2,e7⟩:=aI e6
    have t2:=aC t2
    obtain ⟨t3,e8⟩:=aI e7
    have t3:=aC t3
    have e9:(rz (Nat.div (s.n / 64 / 1048576 % 1048576) (bn / 32))).f rows (fun r=>(takeB (s.n / 64 % 1048576)).f r k)=some r:=e8
    obtain ⟨h1,e10⟩:=EH e9
    obtain ⟨h2,e11⟩:=Cj e10
    rw [List.length_drop] at h2
    refine ⟨_,e11,fun w0 V w u hm hd=> ?_⟩
    obtain ⟨hb,cap,hu,_⟩:=(gT t).1 hd
    obtain ⟨_,h3,h4,_,_,cells,cty,h5,_,hR⟩:=hm.rows hb hg hk
    rw [<-h3] at h4 hR
    obtain ⟨vals,h6,h7,h8,h9⟩:=hR.sub (q:=Nat.div (s.n / 64 / 1048576 % 1048576) (bn / 32)) (n:=s.n / 64 % 1048576) h4 (by omega)
    have hoff:s.n / 64 / 1048576 % 1048576=Nat.div (s.n / 64 / 1048576 % 1048576) (bn / 32)*(bn / 32):=by
     have:=Nat.div_add_mod' (s.n / 64 / 1048576 % 1048576) (bn / 32)
     have t3:s.n / 64 / 1048576 % 1048576 % (bn / 32)=0:=t3
     rw [t3] at this
     exact this.symm
    have hlen:((rows.drop (Nat.div (s.n / 64 / 1048576 % 1048576) (bn / 32))).take (s.n / 64 % 1048576)).length=s.n / 64 % 1048576:=by
     rw [List.length_take,List.length_drop];omega
    refine ⟨vals,_,cap,by rw [hlen];exact hu,by rw [hlen,h6,t2],fun hA=>by (cases hA),fun A hA j v hv=> ?_,h8,t2▸h9⟩
    cases hA
    rw [Ct,Go.Eng.lC h5,hoff]
    exact h7 j v hv
theorem ES {sz bytes:Nat} {rows:List X} {k:Kx} {r} (e:lK sz bytes rows h k=some r):rows.length*bytes<=140737488355328/\rows.length<1048576/\h.n<65536/\∃ x bo,k x (ji h ⟨32*sz+2,rows,bo⟩)=some r/\
  ∀ V cap,V.S h.n->rows.length<=cap->cap*V.ε h.n=V.σ h.n->den V x (.slice (some ⟨V.ρ h.n,0,none⟩) rows.length cap):=by
 have e':ah (Nat.ble (Nat.mul (di rows) bytes) 140737488355328) (oq ⟨Nat.add (Nat.mul 32 sz) 2,rows,oZ⟩ h fun b h=>gZ b 0 (di rows) 0 h k) none=some r:=e
 obtain ⟨t,e1⟩:=aI e'
 have t:=bI t
 rw [lM] at t e1
 obtain ⟨hn,e2⟩:=Cq e1
 obtain ⟨_,hl,x,e3,hx⟩:=rJ e2 (by decide)
 exact ⟨t,hl,hn,x,oZ,e3,fun V cap hb hc he=>hx V cap hb hc (fun hh=>by cases hh) (fun _=>by rw [Nat.zero_add];exact he)⟩
theorem ET {sz:Nat} {rows:List X} {x:X} {bo:Value} (hn:h.n<65536) (hx:∀ V cap,V.S h.n->rows.length<=cap->cap*V.ε h.n=V.σ h.n->den V x (.slice (some ⟨V.ρ h.n,0,none⟩) rows.length cap))
  {w0:World} {V:Vw} {w w':World} {vals rest:List Value} {cap:Nat} {el:TypeId} (hm:MR w0 V h w) (h0:0<sz) (hR:bg V sz rows vals.toArray) (hvl:vals.length=rows.length*sz) (hcap:rows.length<=cap) (hcs:(vals++rest).length=cap*sz)
  (hw:w'.heap[w.heap.size]? =some (.cells (vals++rest).toArray el (0,0))) (hsz:w'.heap.size=w.heap.size+1) (hold:∀ k,k<w.heap.size->w'.heap[k]? =w.heap[k]?) (hos:w'.os=w.os) (htp:w'.tape=w.tape) (hou:w'.output=w.output) (fl:Nat):
  dw RM P w0 fl V h w x (ji h ⟨32*sz+2,rows,bo⟩) (.ok (.value (.slice (some ⟨w.heap.size,0,none⟩) rows.length cap)) w'):=by
 have hE:Ext V (bL V h.n w.heap.size (cap*sz) sz):=vg hm.xJ
 have hB:bH (bL V h.n w.heap.size (cap*sz) sz) w' h.n ⟨32*sz+2,rows,bo⟩:=by
  unfold bH
  simp only [show (32*sz+2) % 32=2 by omega]
  rw [gF,rD,rE]
  exact ⟨_,el,hw,by simpa using hcs,by omega,h0,Nat.mul_le_mul_right _ hcap,(hR.mono hE).more⟩
 obtain ⟨h2,h3⟩:=hm.alloc hn (Nat.le_refl _) (by omega) hold hos htp hou hB fl
 refine ⟨_,_,_,.inl rfl,h2,?_,h3⟩
 have:=hx (bL V h.n w.heap.size (cap*sz) sz) cap (.inr rfl) hcap (by rw [rE,rD])
 rw [gF] at this
 exact this
theorem dw.pre {w0:World} {V:Vw} {h h1 h':Hp} {w w1:World} {x:X} {r:Result Next} (hn:h.n<=h1.n) (hs:Stp fl V h w V w1) (hr:dw RM P w0 fl V h1 w1 x h' r):dw RM P w0 fl V h w x h' r:=by
 obtain ⟨v,w',V',h1,h2,h3,h4⟩:=hr
 exact ⟨v,w',V',h1,h2,h3,hs.trans hn h4⟩
theorem EU (w:World) (ob:Obj):(w.drew.alloc ob).heap[w.heap.size]? =some ob/\(w.drew.alloc ob).heap.size=w.heap.size+1/\∀ k,k<w.heap.size->(w.drew.alloc ob).heap[k]? =w.heap[k]? :=
 ⟨xO w.drew ob,pW w.drew ob,fun k hk=>pV w.drew ob hk⟩
end
end
end Go.M
namespace Go.M
open Go
noncomputable section
variable [aY]
section
variable {P:Program} {fl:Nat} {o:Oper} {h:Hp}
theorem akC {V:Vw} {s:X} {u:Value} (h:den V s u) (ht:s.n=6\/s.n % 32=8\/s.n=11):∃ ad n cap,u= .slice ad n cap/\n<=cap:=by
 rcases ht with ht|ht|ht
 ·exact ⟨none,0,0,(jX (by rw [ht])).1 h,Nat.le_refl _⟩
 ·obtain ⟨_,cap,hu,h1,_⟩:=(gT ht).1 h
  exact ⟨_,_,cap,hu,h1⟩
 ·obtain ⟨a,c,hu⟩:=(zL (by rw [ht])).1 h
  exact ⟨_,_,c,hu,Nat.zero_le _⟩
theorem vz (z:Array Value) (n:Nat):(Builtin.zeroCells z n).toList.length=n*z.size:=by rw [Array.length_toList,size_zeroCells]
theorem akD {ty el sz aP:Nat} {zs:List Value} {s x:Operand} {c:Call} {y z:X} (hE:Go.Eng.El P ty el sz aP zs) (hc:c.callee= .builtin .append) (h2:c.argTypes= #[ty,ty]) (h3:c.args= #[s,x]) (ho:o.op= .call c) (hfl:fl=h.fl):
  ig P fl o [(s,y),(x,z)] h (Qr sz aP y z):=fun k r e=>by
 subst hfl
 obtain ⟨i,zz,hi,hiz,his,hib,hzc,hzl⟩:=hE.info
 have hsz:=hE.pos
 obtain ⟨news,e1,hnews⟩:=Cv e
 have dD:∀ {ev:Operand->Value} {w:World} {v:Value} {w':World},(Builtin.append_ #[ty,ty] o.type #[ev s,ev x]).run P w= .ok v w'->(execOp ev o).run P w= .ok (.value v) w':=fun hv=>by
  simp only [execOp,ho,resolve,hc,h2,h3,invoke,builtin,Sem.run_bind,Sem.run_pure,Result.andThen_ok,List.map_toArray,List.map_cons,List.map_nil,hv]
 have big:∀ n:Nat,n*aP<=140737488355328->n<1048576->0<n->(n:Int)<=9223372036854775807/\n*i.bytes<=281474976710656:=fun n h1 h2 _=>by
  rw [hib];exact ⟨by omega,by omega⟩
 cases hnw:news with
 |nil=>
  rw [hnw] at e1 hnews
  have e2:ah (Nat.beq y.n 6) (fF y h k) (ah (Nat.beq (Nat.land y.n 31) 8) (fF y h k) (ah (Nat.beq y.n 11) (fF y h k) none))=some r:=e1
  have fin:fF y h k=some r->(y.n=6\/y.n % 32=8\/y.n=11)->∃ x_1 h',k x_1 h'=some r/\aM h.fl h h'/\((∀ p ∈ h'.fa,p)->∀ w0 V w (ev:Operand->Value),MR w0 V h w->(∀ q ∈ [(s,y),(x,z)],den V q.2 (ev q.1))->(∀ v,ev (.const v)=v)->
    dw RM P w0 h.fl V h w x_1 h' ((execOp ev o).run P w)):=fun e ht=>by
   rw [rF] at e
   refine ⟨y,h,e,.refl _ _,fun _ w0 V w ev hm hd _=> ?_⟩
   have hy:=hd (s,y) (by simp)
   obtain ⟨ad,n,cap,hu,hle⟩:=akC hy ht
   obtain ⟨vals,QL,cap',hv,_⟩:=hnews w0 V w _ hm (hd (x,z) (by simp))
   have hu':ev s= .slice ad n cap:=hu
   have hv':ev x= .slice QL 0 cap':=hv
   have hrun:(Builtin.append_ #[ty,ty] o.type #[ev s,ev x]).run P w= .ok (ev s) w:=by
    rw [hu',hv']
    cases ad<;>cases QL<;>simp [Builtin.append_,run_underlying hE.und,sizeOf,typeInfo,hi,Builtin.lenOf,Builtin.firstCells,loadCells,loadCellsFrom,storeCells,hle]
   rw [dD hrun]
   exact .pure hm hy
  rcases aF e2 with ⟨t,e3⟩|⟨_,e3⟩
  ·exact fin e3 (.inl (aC t))
  ·rcases aF e3 with ⟨t,e4⟩|⟨_,e4⟩
   ·exact fin e4 (.inr (.inl (bJ t)))
   ·obtain ⟨t,e5⟩:=aI e4
    exact fin e5 (.inr (.inr (aC t)))
 |cons n0 ns=>
  have hpos:0<news.length:=by rw [hnw];simp
  have e2:ah (Nat.beq y.n 6) (lK sz aP news h k) (ah (Nat.beq (Nat.land y.n 31) 8) (kS y.n fun b off len c=>
    ah (Nat.beq c 1) (pR sz y h fun olds=>u6 olds news fun rows=>lK sz aP rows h k)
     (kU b h fun bn e rows=>ah (Nat.beq e sz) (ah (Nat.beq (Nat.mod off e) 0) (aJ (Nat.div off e) fun q=>aJ (Nat.add q len) fun at_=>
      ah (Nat.ble (Nat.add at_ (di news)) (di rows)) ((jZ at_).f rows news fun rows=>j6 b ⟨bn,rows,oZ⟩ h fun h=>gZ b off (Nat.add len (di news)) 0 h k)
       (pR sz y h fun olds=>u6 olds news fun rows=>ah (Nat.beq (Nat.land bn 31) 1) (lK sz aP rows h k) (ah (Nat.beq off 0) (j6 b (aK 0) h fun h=>lK sz aP rows h k) none))) none) none)) none)=some r:=by
   rw [hnw] at e1 ⊢;exact e1
  clear e1 e
  have nw:∀ {w0 V w} {ev:Operand->Value},MR w0 V h w->(∀ q ∈ [(s,y),(x,z)],den V q.2 (ev q.1))->∃ (vals:List Value) (A:Addr) (cap:Nat),ev x= .slice (some A) news.length cap/\vals.length=news.length*sz/\(∀ j v,vals[j]? =some v->w.cell? (A.add j)=some v)/\(∀ v ∈ vals,one v)/\bg V sz news vals.toArray:=fun hm hd=>by
   obtain ⟨vals,ad,cap,h4,h5,h6,h7,h8,h9⟩:=hnews _ _ _ _ hm (hd (x,z) (by simp))
   cases ad with
   |none=>rw [h6 rfl] at hpos;simp at hpos
   |some A=>exact ⟨vals,A,cap,h4,h5,h7 A rfl,h8,h9⟩
  rcases aF e2 with ⟨t,e3⟩|⟨_,e3⟩
  ·
   obtain ⟨hb1,hb2,hn,c,bo,e4,hx⟩:=ES e3
   refine ⟨c,_,e4,.al _ _ _ hn,fun _ w0 V w ev hm hd _=> ?_⟩
   obtain ⟨vals,A,cap,h4,h5,h6,h7,h8⟩:=nw hm hd
   have hs:ev s= .slice none 0 0:=(jX (by rw [aC t])).1 (hd (s,y) (by simp))
   obtain ⟨c1,c2⟩:=big _ hb1 hb2 hpos
   have hrun:=run_append_nil (P:=P) w ty o.type el i zz hE.und hi hiz A news.length cap vals (by rw [h5,his]) h6 hpos c1 c2
   rw [dD (by rw [hs,h4];exact hrun)]
   have hge:=grownCap_ge w news.length 0 el
   obtain ⟨d1,d2,d3⟩:=EU w (.cells (vals.toArray++Builtin.zeroCells zz.cells (grownCap w news.length 0 el - news.length)) el)
   refine ET hn hx (vals:=vals) (rest:=(Builtin.zeroCells zz.cells (grownCap w news.length 0 el - news.length)).toList) (el:=el) hm hsz h8 h5 hge ?_ ?_ d2 d3 rfl rfl rfl h.fl
   ·rw [List.length_append,h5,vz,hzc,<-Nat.add_mul];congr 1;omega
   ·rw [d1];congr 2;apply Array.ext';simp
  ·obtain ⟨t,e4⟩:=aI e3
   have t:=bJ t
   have e5:=vv e4
   have grow:∀ olds:List X,lK sz aP (olds++news) h k=some r->(∀ w0 V w u,MR w0 V h w->den V y u->∃ vals,Reads V w sz olds u vals)->(∀ V (w0 w:World) ad n cap,MR w0 V h w->den V y (.slice ad n cap)->cap<n+news.length)->∃ x_1 h',k x_1 h'=some r/\aM h.fl h h'/\((∀ p ∈ h'.fa,p)->∀ w0 V w (ev:Operand->Value),MR w0 V h w->(∀ q ∈ [(s,y),(x,z)],den V q.2 (ev q.1))->(∀ v,ev (.const v)=v)->
     dw RM P w0 h.fl V h w x_1 h' ((execOp ev o).run P w)):=fun olds e holds hcap=>by
    obtain ⟨hb1,hb2,hn,c,bo,e4,hx⟩:=ES e
    refine ⟨c,_,e4,.al _ _ _ hn,fun _ w0 V w ev hm hd _=> ?_⟩
    obtain ⟨vals,A,cap,h4,h5,h6,h7,h8⟩:=nw hm hd
    have hy:=hd (s,y) (by simp)
    obtain ⟨tN,ad,vB,g4,g5,g6,g7,g8,g9⟩:=holds w0 V w _ hm hy
    obtain ⟨hb,cap',hu,_⟩:=(gT t).1 hy
    have g4':ev s= .slice ad olds.length vB:=g4
    have hu':ev s=_:=hu
    rw [g4'] at hu'
    simp only [Value.slice.injEq] at hu'
    obtain ⟨rfl,g11,rfl⟩:=hu'
    have hlt:=hcap V w0 w _ _ _ hm (by simp only at hy;rw [g4'] at hy;exact hy)
    rw [List.length_append] at hb1 hb2
    obtain ⟨c1,c2⟩:=big _ hb1 hb2 (by omega)
    have hrun:=run_append_grow (P:=P) w ty o.type el i zz hE.und hi hiz _ olds.length vB tN (by rw [g5,his]) (g7 _ rfl) A news.length cap vals (by rw [h5,his]) h6 hlt c1 (growslice_fits hlt (by rw [hib];exact hb1))
    rw [dD (by rw [g4',h4];exact hrun)]
    have hge:=grownCap_ge w (olds.length+news.length) vB el
    obtain ⟨d1,d2,d3⟩:=EU w (.cells (tN.toArray++vals.toArray++Builtin.zeroCells zz.cells (grownCap w (olds.length+news.length) vB el - (olds.length+news.length))) el)
    have:=ET (P:=P) (bo:=bo) hn hx (vals:=tN++vals) (rest:=(Builtin.zeroCells zz.cells (grownCap w (olds.length+news.length) vB el - (olds.length+news.length))).toList) (cap:=grownCap w (olds.length+news.length) vB el) (el:=el) hm hsz (g9.append h8 g5) (by rw [List.length_append,List.length_append,g5,h5,Nat.add_mul]) (by rw [List.length_append];exact hge)
     (by rw [List.length_append,List.length_append,g5,h5,vz,hzc,<-Nat.add_mul,<-Nat.add_mul];congr 1;omega)
     (by rw [d1];congr 2;apply Array.ext';simp) d2 d3 rfl rfl rfl h.fl
    rw [List.length_append] at this
    exact this
   rcases aF e5 with ⟨tc,e6⟩|⟨tc,e6⟩
   ·
    have tc:=aC tc
    obtain ⟨olds,e7,holds⟩:=Cv e6
    rw [Ck] at e7
    refine grow olds e7 holds fun V w0 w ad n cap hm hy=> ?_
    obtain ⟨_,cap',hu,_,h4,_⟩:=(gT t).1 hy
    simp only [Value.slice.injEq] at hu
    rw [hu.2.2,h4 tc,<-hu.2.1];omega
   ·have tc:y.n / 32 % 2=0:=by have:=gq tc;omega
    obtain ⟨bn,rows,hg,hk,e7⟩:=pU e6
    obtain ⟨t2,e8⟩:=aI e7
    have t2:=aC t2
    obtain ⟨t3,e9⟩:=aI e8
    have t3:y.n / 64 / 1048576 % 1048576 % (bn / 32)=0:=aC t3
    rw [t2] at t3
    have e10:ah (Nat.ble (Nat.add (Nat.add (Nat.div (y.n / 64 / 1048576 % 1048576) (bn / 32)) (y.n / 64 % 1048576)) (di news)) (di rows)) ((jZ (Nat.add (Nat.div (y.n / 64 / 1048576 % 1048576) (bn / 32)) (y.n / 64 % 1048576))).f rows news fun rows=>j6 (y.n / 64 / 1048576 / 1048576) ⟨bn,rows,oZ⟩ h fun h=>gZ (y.n / 64 / 1048576 / 1048576) (y.n / 64 / 1048576 % 1048576) (Nat.add (y.n / 64 % 1048576) (di news)) 0 h k)
       (pR sz y h fun olds=>u6 olds news fun rows=>ah (Nat.beq (Nat.land bn 31) 1) (lK sz aP rows h k) (ah (Nat.beq (y.n / 64 / 1048576 % 1048576) 0) (j6 (y.n / 64 / 1048576 / 1048576) (aK 0) h fun h=>lK sz aP rows h k) none))=some r:=e9
    rw [lM,lM,t2] at e10
    have base:∀ {w0 V w u},MR w0 V h w->den V y u->V.S (y.n / 64 / 1048576 / 1048576)/\∃ cap,u= .slice (some ⟨V.ρ (y.n / 64 / 1048576 / 1048576),y.n / 64 / 1048576 % 1048576,none⟩) (y.n / 64 % 1048576) cap/\y.n / 64 % 1048576<=cap/\
      y.n / 64 / 1048576 % 1048576+cap*sz=V.σ (y.n / 64 / 1048576 / 1048576)/\V.ε (y.n / 64 / 1048576 / 1048576)=sz:=fun hm hd=>by
     obtain ⟨hb,cap,hu,h3,_,h5⟩:=(gT t).1 hd
     obtain ⟨_,h6,_⟩:=hm.rows hb hg hk
     rw [t2] at h6
     exact ⟨hb,cap,hu,h3,by rw [h6];exact h5 tc,h6.symm⟩
    have hoff:y.n / 64 / 1048576 % 1048576=Nat.div (y.n / 64 / 1048576 % 1048576) sz*sz:=by
     have:=Nat.div_add_mod' (y.n / 64 / 1048576 % 1048576) sz
     rw [t3] at this
     exact this.symm
    clear e9 e8 e7 e6 e5 e4 e3 e2 t3
    generalize y.n / 64 / 1048576 / 1048576=b at*
    generalize y.n / 64 / 1048576 % 1048576=off at*
    generalize y.n / 64 % 1048576=len at*
    generalize hq:Nat.div off sz=q at*
    rcases aF e10 with ⟨t4,e11⟩|⟨t4,e11⟩
    ·
     have t4:q+len+news.length<=rows.length:=bI t4
     obtain ⟨_,e12⟩:=xH e11
     obtain ⟨hfl,hb',e13⟩:=xI e12
     obtain ⟨hso,hsl,c,e14,hx⟩:=rJ e13 (by decide)
     have hsl:len+news.length<1048576:=hsl
     have hx:∀ (V:Vw) (cap:Nat),V.S b->len+news.length<=cap->((0:Nat)=1->cap=len+news.length)->((0:Nat)=0->off+cap*V.ε b=V.σ b)->den V c (.slice (some ⟨V.ρ b,off,none⟩) (len+news.length) cap):=hx
     refine ⟨c,_,e14,.put hfl hb',fun _ w0 V w ev hm hd _=> ?_⟩
     obtain ⟨vals,A,cap,h4,h5,h6,h7,h8⟩:=nw hm hd
     have hy:=hd (s,y) (by simp)
     obtain ⟨hb,cap0,hu,g1,g2,g3⟩:=base hm hy
     obtain ⟨_,g4,_,_,g5,cells,cty,g6,g7,g8⟩:=hm.rows hb hg hk
     rw [g3] at g5 g8
     have hmul:(q+len+news.length)*sz<=rows.length*sz:=Nat.mul_le_mul_right _ t4
     have m1:(q+len+news.length)*sz=q*sz+len*sz+news.length*sz:=by rw [Nat.add_mul,Nat.add_mul]
     have hfits:len+news.length<=cap0:=by
      have m2:(len+news.length)*sz=len*sz+news.length*sz:=Nat.add_mul _ _ _
      have:(len+news.length)*sz<=cap0*sz:=by omega
      exact Nat.le_of_mul_le_mul_right this hsz
     have hst:=run_storeCells_at P (V.ρ b) (off+len*sz) cty vals 0 cells w g6 (by omega) h7
     simp only [Nat.add_zero,List.append_assoc] at hst
     have hfc:(Builtin.firstCells sz news.length (.slice (some A) news.length cap)).run P w= .ok vals.toArray w:=run_firstCells_some w sz news.length A news.length cap vals h5 h6
     have hu':ev s= .slice (some ⟨V.ρ b,off,none⟩) len cap0:=hu
     have hrun:(Builtin.append_ #[ty,ty] o.type #[ev s,ev x]).run P w= .ok (.slice (some ⟨V.ρ b,off,none⟩) (len+news.length) cap0) (w.setRow (V.ρ b) (Go.Eng.pasted cells (off+len*sz) vals.toArray)):=by
      rw [hu',h4]
      simp [Builtin.append_,run_underlying hE.und,sizeOf,typeInfo,hi,Builtin.lenOf,hfits,hfc,Go.Eng.add_plain,his,hst,Go.Eng.pasted]
     rw [dD hrun]
     have QM:off+len*sz=(q+len)*sz:=by rw [Nat.add_mul,<-hoff]
     have hvs:vals.toArray.size=news.length*sz:=by simpa using h5
     have hsp:=g8.splice (q:=q+len) h8 t4 hvs (by rw [hvs,<-QM];omega)
     rw [<-QM] at hsp
     have hps:=Go.Eng.jb cells (off+len*sz) vals.toArray (by rw [hvs];omega)
     obtain ⟨r1,r2⟩:=hm.turn (fl:=h.fl) (w':=w.setRow (V.ρ b) (Go.Eng.pasted cells (off+len*sz) vals.toArray)) (o':=oZ) hb hfl hg hk (fun k hk=>Go.Eng.oP w _ k _ hk) (by simp) rfl rfl rfl
      (setRow_heap w (V.ρ b) cells _ cty (0,0) g6) (by rw [hps,g7]) (zR t4) (by rw [g3];exact hsp)
     exact ⟨_,_,V,.inl rfl,r1,hx V cap0 hb hfits (fun hh=>by cases hh) (fun _=>by rw [g3];exact g2),r2⟩
    ·have t4:rows.length<q+len+news.length:=tJ t4
     obtain ⟨olds,e12,holds⟩:=Cv e11
     rw [Ck] at e12
     rcases aF e12 with ⟨t5,e13⟩|⟨t5,e13⟩
     ·
      have t5:=bJ t5
      refine grow olds e13 holds fun V w0 w ad n cap hm hy=> ?_
      obtain ⟨hb,cap',hu,_,g2,g3⟩:=base hm hy
      simp only [Value.slice.injEq] at hu
      obtain ⟨_,_,_,g4,_⟩:=hm.rows hb hg hk
      have g4:=g4 t5
      rw [g3] at g4
      have:(q+cap')*sz=rows.length*sz:=by rw [Nat.add_mul,<-hoff,g4,g2]
      have:=Nat.eq_of_mul_eq_mul_right hsz this
      rw [hu.2.1,hu.2.2];omega
     ·
      obtain ⟨t6,e14⟩:=aI e13
      have t6:=aC t6
      subst t6
      have hq0:q=0:=by rw [<-hq];exact Nat.zero_div _
      subst hq0
      obtain ⟨hfl,hb',e15⟩:=xI e14
      obtain ⟨hb1,hb2,hn,c,bo,e16,hx⟩:=ES e15
      have hn':h.n<65536:=hn
      refine ⟨c,_,e16,(aM.put hfl hb').trans (.al _ _ _ hn),fun _ w0 V w ev hm hd _=> ?_⟩
      obtain ⟨vals,A,cap,h4,h5,h6,h7,h8⟩:=nw hm hd
      have hy:=hd (s,y) (by simp)
      obtain ⟨hb,cap0,hu,g1,g2,g3⟩:=base hm hy
      obtain ⟨gl,_,_,_,g5,cells,cty,g6,g7,g8⟩:=hm.rows hb hg hk
      obtain ⟨tN,ad,vB,o4,o5,o6,o7,o8,o9⟩:=holds w0 V w _ hm hy
      have hu':ev s= .slice (some ⟨V.ρ b,0,none⟩) len cap0:=hu
      have J7:ev s= .slice ad olds.length vB:=o4
      rw [hu'] at J7
      simp only [Value.slice.injEq] at J7
      obtain ⟨rfl,rfl,rfl⟩:=J7
      obtain ⟨km,ks⟩:=hm.kill hb hfl gl
      have hkl:¬ live (gH (iF h b (aK 0)) b):=by
       rw [show gH (iF h b (aK 0)) b=aK 0 by
        show (eT.get b).g (eT.pt h.t b (aK 0))=_
        rw [tK hb' hb',if_pos rfl]]
       unfold live;simp
      have hno:∀ k,V.S k->live (gH (iF h b (aK 0)) k)->V.ρ k≠V.ρ b:=fun k hk hlk hρ=>by
       by_cases e:k=b
       ·subst e;exact hkl hlk
       ·have:gH (iF h b (aK 0)) k=gH h k:=by
         show (eT.get k).g (eT.pt h.t b (aK 0))=_
         rw [tK hb' (hm.nb k hk).2,if_neg e]
        rw [this] at hlk
        exact e (hm.inj k b hk hb hlk gl hρ)
      rw [List.length_append] at hb1 hb2
      obtain ⟨c1,c2⟩:=big _ hb1 hb2 (by omega)
      by_cases hroom:olds.length+news.length<=cap0
      ·
       have m1:(olds.length+news.length)*sz<=cap0*sz:=Nat.mul_le_mul_right _ hroom
       have m2:(olds.length+news.length)*sz=olds.length*sz+news.length*sz:=Nat.add_mul _ _ _
       have hst:=run_storeCells_at P (V.ρ b) (olds.length*sz) cty vals 0 cells w g6 (by omega) h7
       simp only [Nat.add_zero,List.append_assoc] at hst
       have hfc:(Builtin.firstCells sz news.length (.slice (some A) news.length cap)).run P w= .ok vals.toArray w:=run_firstCells_some w sz news.length A news.length cap vals h5 h6
       have hrun:(Builtin.append_ #[ty,ty] o.type #[ev s,ev x]).run P w= .ok (.slice (some ⟨V.ρ b,0,none⟩) (olds.length+news.length) cap0) (w.setRow (V.ρ b) (Go.Eng.pasted cells (olds.length*sz) vals.toArray)):=by
        rw [hu',h4]
        simp [Builtin.append_,run_underlying hE.und,sizeOf,typeInfo,hi,Builtin.lenOf,hroom,hfc,Go.Eng.add_plain,his,hst,Go.Eng.pasted]
       rw [dD hrun]
       have hvs:vals.toArray.size=news.length*sz:=by simpa using h5
       have hps:=Go.Eng.jb cells (olds.length*sz) vals.toArray (by rw [hvs];omega)
       have hE2:Ext V (bL V (iF h b (aK 0)).n (V.ρ b) (V.σ b) sz):=vg hm.xJ
       have hR:bg V sz (olds++news) (Go.Eng.pasted cells (olds.length*sz) vals.toArray):=by
        have hA:bg V sz (olds++news) (tN++vals).toArray:=o9.append h8 o5
        intro k row hk
        obtain ⟨a1,a2,a3⟩:=hA k row hk
        refine ⟨a1,a2,fun j c hj=> ?_⟩
        obtain ⟨u,a4,a5⟩:=a3 j c hj
        refine ⟨u,?_,a5⟩
        rw [List.getElem?_toArray] at a4
        have hlt:k*sz+j<(tN++vals).length:=(List.getElem?_eq_some_iff.1 a4).1
        rw [List.length_append,o5,h5] at hlt
        rw [Go.Eng.iC _ _ _ (by rw [hvs];omega),hvs]
        by_cases hko:k*sz+j<olds.length*sz
        ·rw [if_pos hko]
         rw [List.getElem?_append_left (by rw [o5];exact hko)] at a4
         have:=o7 _ rfl _ _ a4
         rw [Ct,Go.Eng.lC g6,Nat.zero_add] at this
         exact this
        ·rw [if_neg hko,if_pos (by omega)]
         rw [List.getElem?_append_right (by rw [o5];omega),o5] at a4
         simpa using a4
       have hB:bH (bL V (iF h b (aK 0)).n (V.ρ b) (V.σ b) sz) (w.setRow (V.ρ b) (Go.Eng.pasted cells (olds.length*sz) vals.toArray)) (iF h b (aK 0)).n ⟨32*sz+2,olds++news,bo⟩:=by
        unfold bH
        simp only [show (32*sz+2) % 32=2 by omega]
        rw [gF,rD,rE]
        exact ⟨_,cty,setRow_heap w (V.ρ b) cells _ cty (0,0) g6,by rw [hps,g7],by omega,hsz,by rw [List.length_append];omega,hR.mono hE2⟩
       obtain ⟨r1,r2⟩:=km.rename (fl:=h.fl) hn hb hfl hkl hno (w':=w.setRow (V.ρ b) (Go.Eng.pasted cells (olds.length*sz) vals.toArray)) (fun k hk=>Go.Eng.oP w _ k _ hk) (by simp) rfl rfl rfl hB
       have QN:=hx (bL V (iF h b (aK 0)).n (V.ρ b) (V.σ b) sz) cap0 (.inr rfl) (by rw [List.length_append];exact hroom) (by rw [rE,rD];omega)
       rw [gF,List.length_append] at QN
       exact ⟨_,_,_,.inl rfl,r1,QN,ks.trans (h':=iF h b (aK 0)) (Nat.le_refl _) r2⟩
      ·
       have hlt:cap0<olds.length+news.length:=by omega
       have hrun:=run_append_grow (P:=P) w ty o.type el i zz hE.und hi hiz _ olds.length cap0 tN (by rw [o5,his]) (o7 _ rfl) A news.length cap vals (by rw [h5,his]) h6 hlt c1 (growslice_fits hlt (by rw [hib];exact hb1))
       rw [dD (by rw [hu',h4];exact hrun)]
       have hge:=grownCap_ge w (olds.length+news.length) cap0 el
       obtain ⟨d1,d2,d3⟩:=EU w (.cells (tN.toArray++vals.toArray++Builtin.zeroCells zz.cells (grownCap w (olds.length+news.length) cap0 el - (olds.length+news.length))) el)
       have:=ET (P:=P) (bo:=bo) hn hx (vals:=tN++vals) (rest:=(Builtin.zeroCells zz.cells (grownCap w (olds.length+news.length) cap0 el - (olds.length+news.length))).toList) (cap:=grownCap w (olds.length+news.length) cap0 el) (el:=el) km hsz (o9.append h8 o5) (by rw [List.length_append,List.length_append,o5,h5,Nat.add_mul]) (by rw [List.length_append];exact hge)
        (by rw [List.length_append,List.length_append,o5,h5,vz,hzc,<-Nat.add_mul,<-Nat.add_mul];congr 1;omega)
        (by rw [d1];congr 2;apply Array.ext';simp) d2 d3 rfl rfl rfl h.fl
       rw [List.length_append] at this
       exact dw.pre (h1:=iF h b (aK 0)) (Nat.le_refl _) ks this
end
end
end Go.M
