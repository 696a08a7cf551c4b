/-
  The two functions that read a handle's bytes: what they give back is the same, and told by the bytes.
  No condition: definitions and lemmas.
-/
import Derived.Test.YtpfhpakpcjfopaaGreatI05
import Derived.Test.YtpfhpakpcjfopaaGreatI04
import Derived.Test.YtpfhpakpcjfopaaGreatI12
import Derived.Test.YtpfhpakpcjfopaaGreatI14
import Derived.Test.YtpfhpakpcjfopaaGreatI16
set_option linter.all false
set_option maxRecDepth 100000
set_option maxHeartbeats 8000000
namespace Go.Eng
open Go Go.RowKit
def Dt (b:List UInt8):Value:=match parse b with
 |some h=> .tuple #[.agg #[.int .i64 h.id,.int .i64 h.gen,.int .i64 h.route,.int .i64 h.hint],.int .i64 0]
 |none=> .tuple #[.agg #[.int .i64 0,.int .i64 0,.int .i64 0,.int .i64 0],.int .i64 8]
theorem ad5 {w:World} {ok:Nat->Prop} {ρ:Nat->Loc} {U:Nat->Prop} {a b c d e:Value} {u:Value} (h:VR w ok ρ U (.aT [.agg [.v a,.v b,.v c,.v d],.v e]) u):u= .tuple #[.agg #[a,b,c,d],e]:=by
 obtain ⟨vs,rfl,hl,h⟩:=h.Mk
 obtain ⟨vs⟩:=vs
 match vs,hl with
 |[x,y],_=>
  obtain ⟨us,rfl,hl2,h2⟩:=(h 0 _ _ rfl rfl).yA
  obtain rfl:=(h 1 _ _ rfl rfl).bA
  obtain ⟨us⟩:=us
  match us,hl2 with
  |[p,q,r,s],_=>
   obtain rfl:=(h2 0 _ _ rfl rfl).bA
   obtain rfl:=(h2 1 _ _ rfl rfl).bA
   obtain rfl:=(h2 2 _ _ rfl rfl).bA
   obtain rfl:=(h2 3 _ _ rfl rfl).bA
   rfl
theorem avg {w:World} {ok:Nat->Prop} {ρ:Nat->Loc} {U:Nat->Prop} {b:List UInt8} {u:Value} (h:VR w ok ρ U (ru b) u):u=Dt b:=by
 unfold ru at h
 unfold Dt
 cases hp:parse b with
 |none=>rw [hp] at h;exact ad5 h
 |some x=>rw [hp] at h;exact ad5 h
theorem Fn.avh {P:Program} {f:FuncId} {b:List UInt8} (hF:Fn P f [dJ b] [] (ru b) [] []) (w:World) (v:Value) (hv:Arg w (dJ b) v):Calls P f #[v] w fun e w'=>e= .returned (Dt b)/\Below w.heap.size w w':=by
 let C:Ctx:=⟨w,fun g=>g<w.heap.size,fun _=>False,fun _=>none,0,fun _ h=>h.elim,(fun _ _ h=>by cases h),(fun _=>False),fun _ h=>h.elim⟩
 have hno:∀ g,¬ iI (fun _:Nat=>Loc.dead) g:=fun g ⟨b,o,n,h⟩=>by cases h
 have hr:HR C (fun _=> .dead) (fun _=>False) (iR 0 []) w:=by
  refine ⟨fun b o h=> ?_,fun _ _=>rfl,fun b b' g o n o' n' h=> ?_,rfl,rfl,rfl,Nat.le_refl _,fun _ _ _ _=>rfl,fun g h=>⟨h,(fun h=>h),fun h=>h⟩,fun g h=>(hno g h).elim,fun b l h=> ?_⟩
  ·cases h
  ·cases h
  ·cases h
 refine (hF.2 C (fun _=> .dead) (fun _=>False) w #[v] hr (fun b h=>h.elim) ⟨rfl,fun i x u h1 h2=> .p ?_⟩).mono fun e w' h=> ?_
 ·match i with
  |0=>
   simp at h1 h2
   subst h1 h2
   exact hv.mono (fun g hg=>⟨.inl hg,hg,hno g⟩) (fun _ _=>rfl)
  |n+1=>simp at h1
 ·obtain ⟨v',ρ',U',rfl,h1,h2⟩:=h
  obtain rfl:=avg h2
  exact ⟨rfl,h1.os,h1.tape,h1.output,h1.size,fun k hk=>h1.old k hk (fun h=>h) fun h=>h⟩
end Go.Eng
namespace Go.M
open Go Go.Proofs
noncomputable section
abbrev qf:X:=⟨3,[⟨130,[⟨0,[],oZ⟩,⟨0,[],oZ⟩,⟨0,[],oZ⟩,⟨0,[],oZ⟩],oZ⟩,⟨256,[],oZ⟩],oZ⟩
abbrev yx (a b c d:Int):X:=⟨3,[⟨130,[⟨13,[],.int .i64 a⟩,⟨13,[],.int .i64 b⟩,⟨13,[],.int .i64 c⟩,⟨13,[],.int .i64 d⟩],oZ⟩,⟨0,[],oZ⟩],oZ⟩
def Du (b:List UInt8):X:=match Go.Eng.parse b with
 |some h=>yx h.id h.gen h.route h.hint
 |none=>qf
theorem ad6 {V:Vw} {a b c d e:X} {va vb vc vd ve:Value} (ha:den V a va) (hb:den V b vb) (hc:den V c vc) (hd:den V d vd) (he:den V e ve) (oa:one va) (ob:one vb) (oc:one vc) (od:one vd):
  den V ⟨3,[⟨130,[a,b,c,d],oZ⟩,e],oZ⟩ (.tuple #[.agg #[va,vb,vc,vd],ve]):=by
 refine (xu (x:=⟨3,[⟨130,[a,b,c,d],oZ⟩,e],oZ⟩) rfl).2 ⟨[.agg #[va,vb,vc,vd],ve],rfl,dz.2 ⟨_,_,rfl,?_,dz.2 ⟨_,_,rfl,he,dA.2 rfl⟩⟩⟩
 refine (lJ (x:=⟨130,[a,b,c,d],oZ⟩) (show 130 % 32=2 from rfl)).2 ⟨[va,vb,vc,vd],rfl,fun v hv=> ?_,dz.2 ⟨_,_,rfl,ha,dz.2 ⟨_,_,rfl,hb,dz.2 ⟨_,_,rfl,hc,dz.2 ⟨_,_,rfl,hd,dA.2 rfl⟩⟩⟩⟩,by show 4=130 / 32;rfl⟩
 simp at hv
 rcases hv with rfl|rfl|rfl|rfl<;>assumption
theorem avi (V:Vw) (b:List UInt8):den V (Du b) (Go.Eng.Dt b):=by
 unfold Du Go.Eng.Dt
 have z:∀ n:Int,den V ⟨13,[],.int .i64 n⟩ (.int .i64 n):=fun n=>(jY (x:=⟨13,[],.int .i64 n⟩) (.inr rfl)).2 ⟨rfl,rfl⟩
 have z0:den V ⟨0,[],oZ⟩ (.int .i64 0):=(dO (x:=⟨0,[],oZ⟩) rfl).2 rfl
 have z8:den V ⟨256,[],oZ⟩ (.int .i64 8):=(dO (x:=⟨256,[],oZ⟩) rfl).2 rfl
 cases Go.Eng.parse b with
 |some h=>exact ad6 (z _) (z _) (z _) (z _) z0 rfl rfl rfl rfl
 |none=>exact ad6 z0 z0 z0 z0 z8 rfl rfl rfl rfl
def kG [l:aB] (x y:X):Prop:=∃ b,(∀ w,l.ψ w->Go.Eng.Arg w (Go.Eng.dJ b) x.o)/\y=Du b
theorem ad7 [l:aB] {g:Nat} {F:ai} {fc:FC} (hE:Enters Tryz.prog g) (hf:iy Tryz.prog g fc) (hF:∀ b,Go.Eng.Fn Tryz.prog g [Go.Eng.dJ b] [] (Go.Eng.ru b) [] []):iy Tryz.prog g (AA kG fc):=
 anZ hE hf fun x y w0 w ⟨b,hb,hy⟩ hΦ ho hs=>by
  have ha:=(hb w0 hΦ.2).mono (fun g hg=>Nat.lt_of_lt_of_le hg hs) (fun g hg=>ho g hg)
  refine (Go.Eng.Fn.avh (hF b) w x.o ha).mono fun e w' ⟨he,hB⟩=>⟨_,he,fun V=> ?_,hB⟩
  rw [hy];exact avi V b
def hkB [l:aB] (f:Nat):FC:=cnd (Nat.beq f 8) (AA kG (rO (lV wh code oJ) Dr)) (cnd (Nat.beq f 59) (AA kG (rO (lV wh code oJ) Dq)) (wh f))
theorem ad8 [l:aB]:gu Tryz.prog (lV wh code oJ):=Gp ad4 (fun g F h=>Tb.ok tab g F h) oJ
theorem avj [l:aB]:gu Tryz.prog hkB:=fun g=>by
 show iy Tryz.prog g (cnd (Nat.beq g 8) (AA kG (rO (lV wh code oJ) Dr)) (cnd (Nat.beq g 59) (AA kG (rO (lV wh code oJ) Dq)) (wh g)))
 cases h1:Nat.beq g 8 with
 |true=>rw [aC h1];exact ad7 (F:=Dr) BP.enters (SQ ad8 BP) Go.Eng.fn8
 |false=>cases h2:Nat.beq g 59 with
  |true=>rw [aC h2];exact ad7 (F:=Dq) BO.enters (SQ ad8 BO) Go.Eng.aiY
  |false=>exact ad4 g
def ad9 (f:Nat):Option ai:=cnd (Nat.beq f 8) none (cnd (Nat.beq f 59) none (code f))
theorem avk {g:Nat} {F:ai} (h:ad9 g=some F):aj Tryz.prog g F:=by
 have h:cnd (Nat.beq g 8) none (cnd (Nat.beq g 59) none (code g))=some F:=h
 cases h1:Nat.beq g 8 with
 |true=>rw [h1] at h;cases h
 |false=>rw [h1] at h;cases h2:Nat.beq g 59 with
  |true=>rw [h2] at h;cases h
  |false=>rw [h2] at h;exact Tb.ok tab g F h
end
end Go.M
