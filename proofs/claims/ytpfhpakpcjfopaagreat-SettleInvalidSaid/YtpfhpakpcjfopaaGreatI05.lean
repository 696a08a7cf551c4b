/-
  Part of a proof: lemmas and definitions of this work.
  No condition.
-/
import Derived.Test.YtpfhpakpcjfopaaGreatI04
import Derived.Test.YtpfhpakpcjfopaaGreatProg
import Derived.Laws.BitsLemmas
import Derived.Laws.Bits64
set_option linter.all false
set_option maxRecDepth 100000
set_option maxHeartbeats 8000000
namespace Go.Eng
open Go
def I5:SCode:= .block 999999 (.loop (.exit 999999))
def mark (p:List SOper->Bool):SCode->SCode
 | .region ops d=>bif p ops then .seq I5 (.region ops d) else .region ops d
 | .seq a b=> .seq (mark p a) (mark p b)
 | .cond c x y=> .cond c (mark p x) (mark p y)
 | .block id c=> .block id (mark p c)
 | .loop c=> .loop (mark p c)
 |c=>c
section
variable {P:Program} {C:Ctx}
end
section
variable {P:Program} {k:List It} {Q:Exit->St->Prop} {n:Nat} {t:List (Nat×AV)} {h:List (Nat×Ob)} {p:List SOper->Bool}
def Ei (P:Program) (b:Bool) (ops:List SOper) (d:Bool) (k:List It) (Q:Exit->St->Prop) (n:Nat) (t:List (Nat×AV)) (h:List (Nat×Ob)):Prop:=
 go P (.code (bif b then .seq I5 (.region ops d) else .region ops d)::k) Q n t h
def NR (P:Program) (k:List It) (Q:Exit->St->Prop) (n:Nat) (t:List (Nat×AV)) (h:List (Nat×Ob)):Prop:=go P (.code I5::k) Q n t h
theorem ahV (ops:List SOper) (d:Bool):go P (.code (mark p (.region ops d))::k) Q n t h=Ei P (p ops) ops d k Q n t h:=(rfl)
theorem ahW (ops:List SOper) (d:Bool):Ei P false ops d k Q n t h=go P (.code (.region ops d)::k) Q n t h:=(rfl)
theorem ahX (ops:List SOper) (d:Bool):Ei P true ops d k Q n t h=NR P (.code (.region ops d)::k) Q n t h:=by
 unfold Ei NR
 exact IJ _ _
theorem ahY (a b:SCode):go P (.code (mark p (.seq a b))::k) Q n t h=go P (.code (mark p a):: .code (mark p b)::k) Q n t h:=IJ _ _
theorem ahZ (c:Operand) (x y:SCode):go P (.code (mark p (.cond c x y))::k) Q n t h=wV P (ev t c) (mark p x) (mark p y) k Q n t h:=(rfl)
theorem ah0 (id:Nat) (c:SCode):go P (.code (mark p (.block id c))::k) Q n t h=go P (.code (mark p c):: .blk id::k) Q n t h:=Nu _ _
theorem ah1 (c:SCode):go P (.code (mark p (.loop c))::k) Q n t h=go P (.code (.loop (mark p c))::k) Q n t h:=(rfl)
theorem ah2:go P (.code (mark p .skip)::k) Q n t h=go P k Q n t h:=(rfl)
theorem ah3 (id:Nat):go P (.code (mark p (.exit id))::k) Q n t h=fQ P id k Q n t h:=(rfl)
theorem ah4:go P (.code (mark p .ret)::k) Q n t h=Q .ret ⟨n,t,h⟩:=(rfl)
end
attribute [go_sem] ahV ahW ahX ahY ahZ ah0 ah1 ah2 ah3 ah4
def BK:List Nat->Nat->Bool
 |[],_=>false
 |a::l,b=>(a==b)||BK l b
def NS (b sz off len:Nat):Option Ob->AV
 |some (.row _ _ xs)=> .sl sz ((xs.drop off).take len)
 |_=> .own b sz off len
mutual
def I6 (h:List (Nat×Ob)):AV->AV
 | .own b sz off len=>NS b sz off len (get h b)
 | .agg cs=> .agg (yZ h cs)
 | .aT cs=> .aT (yZ h cs)
 | .fn f cs=> .fn f (yZ h cs)
 | .v x=> .v x
 | .sl sz xs=> .sl sz xs
 | .ptr b j=> .ptr b j
 | .rp b sz i j=> .rp b sz i j
 | .bW cs j=> .bW cs j
 | .mp b=> .mp b
def yZ (h:List (Nat×Ob)):List AV->List AV
 |[]=>[]
 |c::cs=>I6 h c::yZ h cs
end
def NT (sz off len:Nat):Option Ob->Prop
 |some (.row _ sz' xs)=>sz=sz'/\off+len<=xs.length
 |_=>False
def NU:Option Ob->Prop
 |some (.box _)=>True
 |_=>False
mutual
def I7 (h:List (Nat×Ob)):AV->Prop
 | .own b sz off len=>NT sz off len (get h b)
 | .agg cs=>y5 h cs
 | .aT cs=>y5 h cs
 | .fn _ cs=>y5 h cs
 | .v _=>True
 | .sl _ _=>True
 | .ptr b _=>NU (get h b)
 | .rp _ _ _ _=>False
 | .bW _ _=>True
 | .mp _=>False
def y5 (h:List (Nat×Ob)):List AV->Prop
 |[]=>True
 |c::cs=>I7 h c/\y5 h cs
end
def NV:Ob->Bool
 | .box _=>true
 |_=>false
def Ej:List Nat->List (Nat×Ob)->List Nat
 |_,[]=>[]
 |s,(k,o)::l=>if BK s k=true then Ej s l else if NV o=true then k::Ej (k::s) l else Ej (k::s) l
def NW (h:List (Nat×Ob)) (k:Nat) (r:List (Nat×Ob)):Option Ob->List (Nat×Ob)
 |some (.box cs)=>(k,.box (yZ h cs))::r
 |_=>r
def NY (h:List (Nat×Ob)):List Nat->List (Nat×Ob)
 |[]=>[]
 |k::l=>NW h k (NY h l) (get h k)
def NZ (h:List (Nat×Ob)):Option Ob->Prop
 |some (.box cs)=>y5 h cs
 |_=>True
def N7 (h:List (Nat×Ob)):List Nat->Prop
 |[]=>True
 |k::l=>NZ h (get h k)/\N7 h l
def N8 (sz:Nat):Option Ob->Bool
 |some (.row _ sz' _)=>sz==sz'
 |_=>false
def N9:Option Ob->Bool
 |some (.box _)=>true
 |_=>false
def kp (h:List (Nat×Ob)):AV->Bool
 | .v _=>true
 | .sl _ _=>true
 | .own b sz _ _=>N8 sz (get h b)
 | .ptr b _=>N9 (get h b)
 |_=>false
def Em (h:List (Nat×Ob)):List Nat->List (Nat×AV)->List (Nat×AV)
 |_,[]=>[]
 |s,(k,x)::l=>if BK s k=true then Em h s l else if kp h x=true then (k,I6 h x)::Em h (k::s) l else Em h (k::s) l
def Eo (h:List (Nat×Ob)):List Nat->List (Nat×AV)->Prop
 |_,[]=>True
 |s,(k,x)::l=>if BK s k=true then Eo h s l else if kp h x=true then I7 h x/\Eo h (k::s) l else Eo h (k::s) l
section
variable (h:List (Nat×Ob))
end
section
variable {P:Program} {k:List It} {Q:Exit->St->Prop} {n:Nat} {t:List (Nat×AV)} {h:List (Nat×Ob)}
end
def Oa:SOp->Bool
 | .call _ _=>true
 | .iJ _ _ zs _ _=>decide (10<=zs.length)
 |_=>false
def Oc:List SOper->Bool
 |[]=>false
 |o::l=>Oa o.op||Oc l
def Od:SOp->Bool
 | .iJ _ _ zs _ _=>decide (10<=zs.length)
 |_=>false
def Oe:List SOper->Bool
 |[]=>false
 |o::l=>Od o.op||Oe l
attribute [go_sem] Od Oe
attribute [go_sem ↓] reduceIte
attribute [go_sem] Bool.true_or Bool.or_true Bool.false_or Bool.or_false Bool.or_self
attribute [go_sem] BK NS I6 yZ NT NU I7 y5 NV Ej NW NY NZ N7 N8 N9 kp Em Eo Oa Oc
end Go.Eng
namespace Go.Eng
open Go
section
variable {P:Program} {f:FuncId} {xs ys:List AV} {r:AV} {h:List (Nat×Ob)} {nm:Nat} {k:List It} {Q:Exit->St->Prop} {n n':Nat} {t:List (Nat×AV)} {d:Option Nat} {l ops:List SOper} {acc:List aR}
end
theorem bn {A B:Prop} (k:B) (h:A:=by first|exact ⟨by omega,by omega⟩|rfl|omega|exact ⟨by omega,by omega,by omega⟩):A/\B:=⟨h,k⟩
theorem fz {G:Prop} (h:G:=by (subst hR;first|rfl|simp_all [rv,aN,get,nW.enter,pq.enc,nW.enc,Task.enc,Ev.enc,pu.enc,pz.enc,pE.enc,Dead.enc,Dir.enc,je.enc,Walk.enc,dw.enc,iT.enc,-Int.not_lt,-Int.not_le]<;>try rfl)):G:=h
end Go.Eng
namespace Go.Eng
open Go
abbrev I (n:Int):AV:= .v (.int .i64 n)
abbrev B8 (b:UInt8):AV:= .v (.int .u8 b.toNat)
abbrev Bo (b:Bool):AV:= .v (.bool b)
abbrev Nl:AV:= .v (.slice none 0 0)
abbrev Z:AV:= .v (.int .i64 0)
def encI (l:List Int):List (List AV):=l.map fun z=>[I z]
def encS (l:List ByteArray):List (List AV):=l.map fun z=>[.v (.string z)]
def bG (b:List UInt8):List (List AV):=b.map fun x=>[B8 x]
abbrev dJ (b:List UInt8):AV:= .sl 1 (bG b)
def xg (l:List (List UInt8)):List (List AV):=l.map fun b=>[dJ b]
theorem jy {n:Int} (h: -9223372036854775808<=n/\n<=9223372036854775807):IntKind.i64.wrap n=n:=by
 rw [IntKind.wrap_i64];omega
structure aG where
 id:Int
 route:Int
 epoch:Int
 count:Int
 gen:Int
 sent:Int
 body:ByteArray
def aG.enc (x:aG):List AV:=[I x.id,I x.route,I x.epoch,I x.count,I x.gen,I x.sent,.v (.string x.body)]
abbrev aG.z:aG:=⟨0,0,0,0,0,0,⟨#[]⟩⟩
theorem aG.eH (x:aG):x.enc.length=7:=rfl
@[go_sem] theorem aG.eZ (x:aG):bQ x.enc=[]:=rfl
structure Ring where
 cells:List aG
 head:Int
 size:Int
def Ring.enc (x:Ring):List AV:=[.sl 7 (x.cells.map aG.enc),I x.head,I x.size]
abbrev Ring.z:Ring:=⟨[],0,0⟩
theorem Ring.eH (x:Ring):x.enc.length=3:=rfl
@[go_sem] theorem Ring.eZ (x:Ring):bQ x.enc=[]:=rfl
structure Due where
 dl:Int
 id:Int
def Due.enc (x:Due):List AV:=[I x.dl,I x.id]
abbrev Due.z:Due:=⟨0,0⟩
theorem Due.eH (x:Due):x.enc.length=2:=rfl
@[go_sem] theorem Due.eZ (x:Due):bQ x.enc=[]:=rfl
structure nX where
 msg:aG
 dl:Int
def nX.enc (x:nX):List AV:=[I x.msg.id,I x.msg.route,I x.msg.epoch,I x.msg.count,I x.msg.gen,I x.msg.sent,.v (.string x.msg.body),I x.dl]
abbrev nX.z:nX:=⟨aG.z,0⟩
theorem nX.eH (x:nX):x.enc.length=8:=rfl
@[go_sem] theorem nX.eZ (x:nX):bQ x.enc=[]:=rfl
structure Table where
 l:List nX
 heap:List Due
def Table.enc (x:Table):List AV:=[.sl 8 (x.l.map nX.enc),.sl 2 (x.heap.map Due.enc)]
abbrev Table.z:Table:=⟨[],[]⟩
theorem Table.eH (x:Table):x.enc.length=2:=rfl
@[go_sem] theorem Table.eZ (x:Table):bQ x.enc=[]:=rfl
structure je where
 live:Bool
 low:Int
 high:Int
 ready:Ring
 Ep:Table
def je.enc (x:je):List AV:=[Bo x.live,I x.low,I x.high,.sl 7 (x.ready.cells.map aG.enc),I x.ready.head,I x.ready.size,.sl 8 (x.Ep.l.map nX.enc),.sl 2 (x.Ep.heap.map Due.enc)]
abbrev je.z:je:=⟨false,0,0,Ring.z,Table.z⟩
theorem je.eH (x:je):x.enc.length=8:=rfl
@[go_sem] theorem je.eZ (x:je):bQ x.enc=[]:=rfl
structure Dead where
 cap:Int
 l:List aG
def Dead.enc (x:Dead):List AV:=[I x.cap,.sl 7 (x.l.map aG.enc)]
abbrev Dead.z:Dead:=⟨0,[]⟩
theorem Dead.eH (x:Dead):x.enc.length=2:=rfl
@[go_sem] theorem Dead.eZ (x:Dead):bQ x.enc=[]:=rfl
structure Hd where
 id:Int
 gen:Int
 route:Int
 hint:Int
def Hd.enc (x:Hd):List AV:=[I x.id,I x.gen,I x.route,I x.hint]
abbrev Hd.z:Hd:=⟨0,0,0,0⟩
theorem Hd.eH (x:Hd):x.enc.length=4:=rfl
@[go_sem] theorem Hd.eZ (x:Hd):bQ x.enc=[]:=rfl
structure Span where
 low:Int
 high:Int
 qA:Int
def Span.enc (x:Span):List AV:=[I x.low,I x.high,I x.qA]
abbrev Span.z:Span:=⟨0,0,0⟩
theorem Span.eH (x:Span):x.enc.length=3:=rfl
@[go_sem] theorem Span.eZ (x:Span):bQ x.enc=[]:=rfl
structure Dir where
 version:Int
 l:List Span
 y7:List Int
def Dir.enc (x:Dir):List AV:=[I x.version,.sl 3 (x.l.map Span.enc),.sl 1 (encI x.y7)]
abbrev Dir.z:Dir:=⟨0,[],[]⟩
theorem Dir.eH (x:Dir):x.enc.length=3:=rfl
@[go_sem] theorem Dir.eZ (x:Dir):bQ x.enc=[]:=rfl
structure nY where
 kind:Int
 BL:Int
 to:Int
 mid:Int
def nY.enc (x:nY):List AV:=[I x.kind,I x.BL,I x.to,I x.mid]
abbrev nY.z:nY:=⟨0,0,0,0⟩
theorem nY.eH (x:nY):x.enc.length=4:=rfl
@[go_sem] theorem nY.eZ (x:nY):bQ x.enc=[]:=rfl
structure iT where
 seq:Int
 epoch:Int
 ready:Int
 BM:Int
def iT.enc (x:iT):List AV:=[I x.seq,I x.epoch,I x.ready,I x.BM]
abbrev iT.z:iT:=⟨0,0,0,0⟩
theorem iT.eH (x:iT):x.enc.length=4:=rfl
@[go_sem] theorem iT.eZ (x:iT):bQ x.enc=[]:=rfl
structure Slot where
 owner:Int
 qA:je
def Slot.enc (x:Slot):List AV:=[I x.owner,Bo x.qA.live,I x.qA.low,I x.qA.high,.sl 7 (x.qA.ready.cells.map aG.enc),I x.qA.ready.head,I x.qA.ready.size,.sl 8 (x.qA.Ep.l.map nX.enc),.sl 2 (x.qA.Ep.heap.map Due.enc)]
abbrev Slot.z:Slot:=⟨0,je.z⟩
theorem Slot.eH (x:Slot):x.enc.length=9:=rfl
@[go_sem] theorem Slot.eZ (x:Slot):bQ x.enc=[]:=rfl
structure qB where
 owner:Int
 dead:Dead
def qB.enc (x:qB):List AV:=[I x.owner,I x.dead.cap,.sl 7 (x.dead.l.map aG.enc)]
abbrev qB.z:qB:=⟨0,Dead.z⟩
theorem qB.eH (x:qB):x.enc.length=3:=rfl
@[go_sem] theorem qB.eZ (x:qB):bQ x.enc=[]:=rfl
structure pq where
 slots:List Slot
 BN:List iT
 dead:qB
 dir:Dir
 epoch:Int
 clock:Int
 y8:Int
def pq.enc (x:pq):List AV:=[.sl 9 (x.slots.map Slot.enc),.sl 4 (x.BN.map iT.enc),I x.dead.owner,I x.dead.dead.cap,.sl 7 (x.dead.dead.l.map aG.enc),I x.dir.version,.sl 3 (x.dir.l.map Span.enc),.sl 1 (encI x.dir.y7),I x.epoch,I x.clock,I x.y8]
abbrev pq.z:pq:=⟨[],[],qB.z,Dir.z,0,0,0⟩
theorem pq.eH (x:pq):x.enc.length=11:=rfl
@[go_sem] theorem pq.eZ (x:pq):bQ x.enc=[]:=rfl
structure Setup where
 slots:Int
 live:Int
 capacity:Int
 dead:Int
 limit:Int
 clock:Int
 y8:Int
 epoch:Int
def Setup.enc (x:Setup):List AV:=[I x.slots,I x.live,I x.capacity,I x.dead,I x.limit,I x.clock,I x.y8,I x.epoch]
abbrev Setup.z:Setup:=⟨0,0,0,0,0,0,0,0⟩
theorem Setup.eH (x:Setup):x.enc.length=8:=rfl
@[go_sem] theorem Setup.eZ (x:Setup):bQ x.enc=[]:=rfl
structure pz where
 cells:List Int
 phase:Int
 got:Int
 tries:Int
 wait:Int
def pz.enc (x:pz):List AV:=[.sl 1 (encI x.cells),I x.phase,I x.got,I x.tries,I x.wait]
abbrev pz.z:pz:=⟨[],0,0,0,0⟩
theorem pz.eH (x:pz):x.enc.length=5:=rfl
@[go_sem] theorem pz.eZ (x:pz):bQ x.enc=[]:=rfl
structure pE where
 phase:Int
 epoch:Int
 clock:Int
 stamp:Int
def pE.enc (x:pE):List AV:=[I x.phase,I x.epoch,I x.clock,I x.stamp]
abbrev pE.z:pE:=⟨0,0,0,0⟩
theorem pE.eH (x:pE):x.enc.length=4:=rfl
@[go_sem] theorem pE.eZ (x:pE):bQ x.enc=[]:=rfl
structure pu where
 y9:List je
 dead:Dead
 order:List Int
 carry:List aG
 I8:List nY
def pu.enc (x:pu):List AV:=[.sl 8 (x.y9.map je.enc),I x.dead.cap,.sl 7 (x.dead.l.map aG.enc),.sl 1 (encI x.order),.sl 7 (x.carry.map aG.enc),.sl 4 (x.I8.map nY.enc)]
abbrev pu.z:pu:=⟨[],Dead.z,[],[],[]⟩
theorem pu.eH (x:pu):x.enc.length=6:=rfl
@[go_sem] theorem pu.eZ (x:pu):bQ x.enc=[]:=rfl
structure nW where
 phase:Int
 at_:Int
 lock:pz
 uS:pE
 y9:List je
 dead:Dead
 BN:List iT
 dir:Dir
 out:pu
 limit:Int
 carry:List aG
def nW.enc (x:nW):List AV:=[I x.phase,I x.at_,.sl 1 (encI x.lock.cells),I x.lock.phase,I x.lock.got,I x.lock.tries,I x.lock.wait,I x.uS.phase,I x.uS.epoch,I x.uS.clock,I x.uS.stamp,.sl 8 (x.y9.map je.enc),I x.dead.cap,.sl 7 (x.dead.l.map aG.enc),.sl 4 (x.BN.map iT.enc),I x.dir.version,.sl 3 (x.dir.l.map Span.enc),.sl 1 (encI x.dir.y7),.sl 8 (x.out.y9.map je.enc),I x.out.dead.cap,.sl 7 (x.out.dead.l.map aG.enc),.sl 1 (encI x.out.order),.sl 7 (x.out.carry.map aG.enc),.sl 4 (x.out.I8.map nY.enc),I x.limit,.sl 7 (x.carry.map aG.enc)]
abbrev nW.z:nW:=⟨0,0,pz.z,pE.z,[],Dead.z,[],Dir.z,pu.z,0,[]⟩
theorem nW.eH (x:nW):x.enc.length=26:=rfl
@[go_sem] theorem nW.eZ (x:nW):bQ x.enc=[]:=rfl
structure Walk where
 next:Int
 covered:Int
def Walk.enc (x:Walk):List AV:=[I x.next,I x.covered]
abbrev Walk.z:Walk:=⟨0,0⟩
theorem Walk.eH (x:Walk):x.enc.length=2:=rfl
@[go_sem] theorem Walk.eZ (x:Walk):bQ x.enc=[]:=rfl
structure nZ where
 kind:Int
 home:Int
 max_:Int
 I9:Int
 BL:Int
 to:Int
 bodies:List ByteArray
 tokens:List (List UInt8)
def nZ.enc (x:nZ):List AV:=[I x.kind,I x.home,I x.max_,I x.I9,I x.BL,I x.to,.sl 1 (encS x.bodies),.sl 1 (xg x.tokens)]
abbrev nZ.z:nZ:=⟨0,0,0,0,0,0,[],[]⟩
theorem nZ.eH (x:nZ):x.enc.length=8:=rfl
@[go_sem] theorem nZ.eZ (x:nZ):bQ x.enc=[]:=rfl
structure dw where
 err:Int
 id:Int
 tokens:List (List UInt8)
 bodies:List ByteArray
 ready:Int
 BM:Int
 moved:Int
def dw.enc (x:dw):List AV:=[I x.err,I x.id,.sl 1 (xg x.tokens),.sl 1 (encS x.bodies),I x.ready,I x.BM,I x.moved]
abbrev dw.z:dw:=⟨0,0,[],[],0,0,0⟩
theorem dw.eH (x:dw):x.enc.length=7:=rfl
@[go_sem] theorem dw.eZ (x:dw):bQ x.enc=[]:=rfl
structure qC where
 id:Int
 gen:Int
 route:Int
 dl:Int
def qC.enc (x:qC):List AV:=[I x.id,I x.gen,I x.route,I x.dl]
abbrev qC.z:qC:=⟨0,0,0,0⟩
theorem qC.eH (x:qC):x.enc.length=4:=rfl
@[go_sem] theorem qC.eZ (x:qC):bQ x.enc=[]:=rfl
structure Ev where
 stamp:Int
 task:Int
 entry:Int
 kind:Int
 now:Int
 epoch:Int
 err:Int
 l:List qC
 ready:Int
 BM:Int
def Ev.enc (x:Ev):List AV:=[I x.stamp,I x.task,I x.entry,I x.kind,I x.now,I x.epoch,I x.err,.sl 4 (x.l.map qC.enc),I x.ready,I x.BM]
abbrev Ev.z:Ev:=⟨0,0,0,0,0,0,0,[],0,0⟩
theorem Ev.eH (x:Ev):x.enc.length=10:=rfl
@[go_sem] theorem Ev.eZ (x:Ev):bQ x.enc=[]:=rfl
structure Task where
 number:Int
 inv:nZ
 invoked:Int
 dn:Bool
 ended:Int
 pc:Int
 entry:Int
 results:List dw
 setup:Setup
 sec:nW
 dir:Dir
 walk:Walk
 slot:Int
 id:Int
 hnd:Hd
 loaded:Int
 first:List iT
 second:List iT
def Task.enc (x:Task):List AV:=[I x.number,I x.inv.kind,I x.inv.home,I x.inv.max_,I x.inv.I9,I x.inv.BL,I x.inv.to,.sl 1 (encS x.inv.bodies),.sl 1 (xg x.inv.tokens),I x.invoked,Bo x.dn,I x.ended,I x.pc,I x.entry,.sl 7 (x.results.map dw.enc),I x.setup.slots,I x.setup.live,I x.setup.capacity,I x.setup.dead,I x.setup.limit,I x.setup.clock,I x.setup.y8,I x.setup.epoch,I x.sec.phase,I x.sec.at_,.sl 1 (encI x.sec.lock.cells),I x.sec.lock.phase,I x.sec.lock.got,I x.sec.lock.tries,I x.sec.lock.wait,I x.sec.uS.phase,I x.sec.uS.epoch,I x.sec.uS.clock,I x.sec.uS.stamp,.sl 8 (x.sec.y9.map je.enc),I x.sec.dead.cap,.sl 7 (x.sec.dead.l.map aG.enc),.sl 4 (x.sec.BN.map iT.enc),I x.sec.dir.version,.sl 3 (x.sec.dir.l.map Span.enc),.sl 1 (encI x.sec.dir.y7),.sl 8 (x.sec.out.y9.map je.enc),I x.sec.out.dead.cap,.sl 7 (x.sec.out.dead.l.map aG.enc),.sl 1 (encI x.sec.out.order),.sl 7 (x.sec.out.carry.map aG.enc),.sl 4 (x.sec.out.I8.map nY.enc),I x.sec.limit,.sl 7 (x.sec.carry.map aG.enc),I x.dir.version,.sl 3 (x.dir.l.map Span.enc),.sl 1 (encI x.dir.y7),I x.walk.next,I x.walk.covered,I x.slot,I x.id,I x.hnd.id,I x.hnd.gen,I x.hnd.route,I x.hnd.hint,I x.loaded,.sl 4 (x.first.map iT.enc),.sl 4 (x.second.map iT.enc)]
abbrev Task.z:Task:=⟨0,nZ.z,0,false,0,0,0,[],Setup.z,nW.z,Dir.z,Walk.z,0,0,Hd.z,0,[],[]⟩
theorem Task.eH (x:Task):x.enc.length=63:=rfl
@[go_sem] theorem Task.eZ (x:Task):bQ x.enc=[]:=rfl
structure uU where
 setup:Setup
 arena:pq
 tasks:List Task
 log:List Ev
 steps:Int
 handles:List (List UInt8)
def uU.enc (x:uU):List AV:=[I x.setup.slots,I x.setup.live,I x.setup.capacity,I x.setup.dead,I x.setup.limit,I x.setup.clock,I x.setup.y8,I x.setup.epoch,.sl 9 (x.arena.slots.map Slot.enc),.sl 4 (x.arena.BN.map iT.enc),I x.arena.dead.owner,I x.arena.dead.dead.cap,.sl 7 (x.arena.dead.dead.l.map aG.enc),I x.arena.dir.version,.sl 3 (x.arena.dir.l.map Span.enc),.sl 1 (encI x.arena.dir.y7),I x.arena.epoch,I x.arena.clock,I x.arena.y8,.sl 63 (x.tasks.map Task.enc),.sl 10 (x.log.map Ev.enc),I x.steps,.sl 1 (xg x.handles)]
abbrev uU.z:uU:=⟨Setup.z,pq.z,[],[],0,[]⟩
theorem uU.eH (x:uU):x.enc.length=23:=rfl
@[go_sem] theorem uU.eZ (x:uU):bQ x.enc=[]:=rfl
structure qD where
 index:Int
 variant:Int
 raw:List UInt8
def qD.enc (x:qD):List AV:=[I x.index,I x.variant,dJ x.raw]
abbrev qD.z:qD:=⟨0,0,[]⟩
theorem qD.eH (x:qD):x.enc.length=3:=rfl
@[go_sem] theorem qD.eZ (x:qD):bQ x.enc=[]:=rfl
structure uV where
 kind:Int
 pick:Int
 aP:Int
 inv:nZ
 refs:List qD
def uV.enc (x:uV):List AV:=[I x.kind,I x.pick,I x.aP,I x.inv.kind,I x.inv.home,I x.inv.max_,I x.inv.I9,I x.inv.BL,I x.inv.to,.sl 1 (encS x.inv.bodies),.sl 1 (xg x.inv.tokens),.sl 3 (x.refs.map qD.enc)]
abbrev uV.z:uV:=⟨0,0,0,nZ.z,[]⟩
theorem uV.eH (x:uV):x.enc.length=12:=rfl
@[go_sem] theorem uV.eZ (x:uV):bQ x.enc=[]:=rfl
theorem Og (l:List Int):(encI l).length=l.length:=by simp [encI]
theorem ah5 (l:List ByteArray):(encS l).length=l.length:=by simp [encS]
theorem iD (l:List UInt8):(bG l).length=l.length:=by simp [bG]
theorem ah6 (l:List (List UInt8)):(xg l).length=l.length:=by simp [xg]
attribute [go_sem] Og ah5 iD ah6 List.length_map
theorem ah7 (n:Nat):(n+1<=n)=False:=by simp
attribute [go_sem] ah7 qw
attribute [go_sem] reduceIte Nat.reduceAdd Nat.reduceMul Nat.reduceSub Nat.reduceEqDiff Nat.reduceLeDiff Nat.reduceLT reduceCtorEq Nat.succ_eq_add_one
attribute [go_sem] cond_true cond_false Bool.false_or Bool.or_false Nat.reduceBEq Nat.reduceBeqDiff
end Go.Eng
namespace Go.Eng
open Go Go.Proofs
theorem qE:sizeP Tryz.prog 3=some 1:=by kernel_rfl
theorem qF:sizeP Tryz.prog 5=some 1:=by kernel_rfl
theorem qG:sizeP Tryz.prog 47=some 4:=by kernel_rfl
theorem qH:sizeP Tryz.prog 172=some 1:=by kernel_rfl
theorem qI:sizeP Tryz.prog 173=some 2:=by kernel_rfl
theorem qJ:sizeP Tryz.prog 219=some 2:=by kernel_rfl
theorem qK:aggP Tryz.prog 3=some false:=by kernel_rfl
theorem qL:aggP Tryz.prog 5=some false:=by kernel_rfl
theorem qM:aggP Tryz.prog 47=some true:=by kernel_rfl
theorem qN:aggP Tryz.prog 172=some false:=by kernel_rfl
theorem qO:aggP Tryz.prog 173=some true:=by kernel_rfl
theorem qP:aggP Tryz.prog 219=some true:=by kernel_rfl
theorem qQ:zerosOf Tryz.prog 5=some [(.int .u8 0)]:=by kernel_rfl
theorem qR:zerosOf Tryz.prog 47=some [(.int .i64 0),(.int .i64 0),(.int .i64 0),(.int .i64 0)]:=by kernel_rfl
theorem qU:zerosOf Tryz.prog 173=some [(.pointer none),(.int .i64 0)]:=by kernel_rfl
theorem qV:zerosOf Tryz.prog 174=some [(.pointer none),(.int .i64 0),(.pointer none),(.int .i64 0),(.pointer none),(.int .i64 0),(.pointer none),(.int .i64 0)]:=by kernel_rfl
theorem qW:zerosOf Tryz.prog 219=some [(.int .i64 0),(.int .i64 0)]:=by kernel_rfl
theorem qX:zerosOf Tryz.prog 220=some [(.int .i64 0),(.int .i64 0),(.int .i64 0),(.int .i64 0),(.int .i64 0),(.int .i64 0),(.int .i64 0),(.int .i64 0),(.int .i64 0),(.int .i64 0)]:=by kernel_rfl
theorem qY:bytesP Tryz.prog 5=some 1:=by kernel_rfl
abbrev SC (c:Code):={s:SCode // stripCode Tryz.prog c=some s}
def SC.mk' {c:Code} {s:SCode} (h:stripCode Tryz.prog c=some s):SC c:=⟨s,h⟩
theorem SC.ok {f:FuncId} {fn:Func} {c:Code} (x:SC c) {res:List fP} {nt:Nat} (h1:Tryz.prog.funcs[f]? =some fn) (h2:(fn.name== "runtime.NumGoroutine")=false) (h3:fn.body=some c) (h4:uM Tryz.prog fn.results.toList=some res)
 (h5:fn.results.toList.length<=5) (h6:fn.ntmps=nt) (h7:lD nt x.1=true) (h8:Tryz.prog.follows .mixedOrders=true):jc Tryz.prog f x.1 res nt:=⟨⟨fn,c,h1,h2,h3,x.2,h4,h5,h6⟩,h7,h8⟩
end Go.Eng
namespace Go.Eng
open Go Go.Proofs
attribute [local go_sem] stripCode stripOps stripOper strip stripParts kindsOf kinds2 Option.bind List.filterMap reduceIte Bool.false_eq_true Bool.and_true Bool.and_self Bool.true_and and_self and_true true_and List.all List.map List.isEmpty Option.isSome ne_eq not_false_eq_true not_true_eq_false reduceCtorEq String.reduceEq String.reduceNe List.length_cons List.length_nil Nat.reduceAdd Nat.reduceMul Nat.reduceLT Nat.reduceLeDiff Nat.zero_add Value.oneCell' Nat.reduceEqDiff Option.getD List.getElem?_toArray List.getElem?_cons_zero List.getElem?_cons_succ List.size_toArray if_true if_false List.any Array.size decide_true decide_false Tryz.underlying3 Tryz.underlying5 Tryz.underlying9 Tryz.underlying47 Tryz.underlying48 Tryz.underlying51 Tryz.underlying127 Tryz.underlying173 Tryz.underlying174 Tryz.underlying219 Tryz.underlying220 Tryz.underlying273 qE qF qG qH qI qJ qK qL qM qN qO qP qQ qR qU qV qW qX qY
noncomputable def za:SC (Tryz.f137.body.getD .skip):=SC.mk' (by simp only [Tryz.f137,go_sem];rfl)
theorem Ja:jc Tryz.prog 137 za.1 [.tmp 6] 15:=SC.ok za (fn:=Tryz.f137) (by kernel_rfl) (by kernel_rfl) (by kernel_rfl) (by kernel_rfl) (by decide) (by kernel_rfl) (by kernel_rfl) (by kernel_rfl)
noncomputable def ze:SC (Tryz.f138.body.getD .skip):=SC.mk' (by simp only [Tryz.f138,go_sem];rfl)
theorem Jb:jc Tryz.prog 138 ze.1 [.tmp 6,.tmp 7] 44:=SC.ok ze (fn:=Tryz.f138) (by kernel_rfl) (by kernel_rfl) (by kernel_rfl) (by kernel_rfl) (by decide) (by kernel_rfl) (by kernel_rfl) (by kernel_rfl)
end Go.Eng
namespace Go.Eng
open Go Go.Proofs
attribute [local go_sem] stripCode stripOps stripOper strip stripParts kindsOf kinds2 Option.bind List.filterMap reduceIte Bool.false_eq_true Bool.and_true Bool.and_self Bool.true_and and_self and_true true_and List.all List.map List.isEmpty Option.isSome ne_eq not_false_eq_true not_true_eq_false reduceCtorEq String.reduceEq String.reduceNe List.length_cons List.length_nil Nat.reduceAdd Nat.reduceMul Nat.reduceLT Nat.reduceLeDiff Nat.zero_add Value.oneCell' Nat.reduceEqDiff Option.getD List.getElem?_toArray List.getElem?_cons_zero List.getElem?_cons_succ List.size_toArray if_true if_false List.any Array.size decide_true decide_false Tryz.underlying3 Tryz.underlying5 Tryz.underlying9 Tryz.underlying47 Tryz.underlying48 Tryz.underlying51 Tryz.underlying127 Tryz.underlying173 Tryz.underlying174 Tryz.underlying219 Tryz.underlying220 Tryz.underlying273 qE qF qG qH qI qJ qK qL qM qN qO qP qQ qR qU qV qW qX qY
noncomputable def zf:SC (Tryz.f84.body.getD .skip):=SC.mk' (by simp only [Tryz.f84,go_sem];rfl)
theorem Jc:jc Tryz.prog 84 zf.1 [.tmp 6,.tmp 7] 51:=SC.ok zf (fn:=Tryz.f84) (by kernel_rfl) (by kernel_rfl) (by kernel_rfl) (by kernel_rfl) (by decide) (by kernel_rfl) (by kernel_rfl) (by kernel_rfl)
noncomputable def zh:SC (Tryz.f207.body.getD .skip):=SC.mk' (by simp only [Tryz.f207,go_sem];rfl)
theorem Jd:jc Tryz.prog 207 zh.1 [.tmp 4] 20:=SC.ok zh (fn:=Tryz.f207) (by kernel_rfl) (by kernel_rfl) (by kernel_rfl) (by kernel_rfl) (by decide) (by kernel_rfl) (by kernel_rfl) (by kernel_rfl)
end Go.Eng
namespace Go.Eng
open Go Go.Proofs
attribute [local go_sem] stripCode stripOps stripOper strip stripParts kindsOf kinds2 Option.bind List.filterMap reduceIte Bool.false_eq_true Bool.and_true Bool.and_self Bool.true_and and_self and_true true_and List.all List.map List.isEmpty Option.isSome ne_eq not_false_eq_true not_true_eq_false reduceCtorEq String.reduceEq String.reduceNe List.length_cons List.length_nil Nat.reduceAdd Nat.reduceMul Nat.reduceLT Nat.reduceLeDiff Nat.zero_add Value.oneCell' Nat.reduceEqDiff Option.getD List.getElem?_toArray List.getElem?_cons_zero List.getElem?_cons_succ List.size_toArray if_true if_false List.any Array.size decide_true decide_false Tryz.underlying3 Tryz.underlying5 Tryz.underlying9 Tryz.underlying47 Tryz.underlying48 Tryz.underlying51 Tryz.underlying127 Tryz.underlying173 Tryz.underlying174 Tryz.underlying219 Tryz.underlying220 Tryz.underlying273 qE qF qG qH qI qJ qK qL qM qN qO qP qQ qR qU qV qW qX qY
noncomputable def zi:SC (Tryz.f139.body.getD .skip):=SC.mk' (by simp only [Tryz.f139,go_sem];rfl)
theorem Je:jc Tryz.prog 139 zi.1 [.tmp 2] 8:=SC.ok zi (fn:=Tryz.f139) (by kernel_rfl) (by kernel_rfl) (by kernel_rfl) (by kernel_rfl) (by decide) (by kernel_rfl) (by kernel_rfl) (by kernel_rfl)
noncomputable def zk:SC (Tryz.f85.body.getD .skip):=SC.mk' (by simp only [Tryz.f85,go_sem];rfl)
theorem Jf:jc Tryz.prog 85 zk.1 [.tmp 2,.tmp 3] 63:=SC.ok zk (fn:=Tryz.f85) (by kernel_rfl) (by kernel_rfl) (by kernel_rfl) (by kernel_rfl) (by decide) (by kernel_rfl) (by kernel_rfl) (by kernel_rfl)
end Go.Eng
namespace Go.Eng
open Go Go.Proofs
attribute [local go_sem] stripCode stripOps stripOper strip stripParts kindsOf kinds2 Option.bind List.filterMap reduceIte Bool.false_eq_true Bool.and_true Bool.and_self Bool.true_and and_self and_true true_and List.all List.map List.isEmpty Option.isSome ne_eq not_false_eq_true not_true_eq_false reduceCtorEq String.reduceEq String.reduceNe List.length_cons List.length_nil Nat.reduceAdd Nat.reduceMul Nat.reduceLT Nat.reduceLeDiff Nat.zero_add Value.oneCell' Nat.reduceEqDiff Option.getD List.getElem?_toArray List.getElem?_cons_zero List.getElem?_cons_succ List.size_toArray if_true if_false List.any Array.size decide_true decide_false Tryz.underlying3 Tryz.underlying5 Tryz.underlying9 Tryz.underlying47 Tryz.underlying48 Tryz.underlying51 Tryz.underlying127 Tryz.underlying173 Tryz.underlying174 Tryz.underlying219 Tryz.underlying220 Tryz.underlying273 qE qF qG qH qI qJ qK qL qM qN qO qP qQ qR qU qV qW qX qY
noncomputable def zm:SC (Tryz.f59.body.getD .skip):=SC.mk' (by simp only [Tryz.f59,go_sem];rfl)
theorem BO:jc Tryz.prog 59 zm.1 [.cell 2 true 4,.tmp 3] 57:=SC.ok zm (fn:=Tryz.f59) (by kernel_rfl) (by kernel_rfl) (by kernel_rfl) (by kernel_rfl) (by decide) (by kernel_rfl) (by kernel_rfl) (by kernel_rfl)
noncomputable def zn:SC (Tryz.f86.body.getD .skip):=SC.mk' (by simp only [Tryz.f86,go_sem];rfl)
theorem Jg:jc Tryz.prog 86 zn.1 [.tmp 4] 26:=SC.ok zn (fn:=Tryz.f86) (by kernel_rfl) (by kernel_rfl) (by kernel_rfl) (by kernel_rfl) (by decide) (by kernel_rfl) (by kernel_rfl) (by kernel_rfl)
end Go.Eng
namespace Go.Eng
open Go Go.Proofs
attribute [local go_sem] stripCode stripOps stripOper strip stripParts kindsOf kinds2 Option.bind List.filterMap reduceIte Bool.false_eq_true Bool.and_true Bool.and_self Bool.true_and and_self and_true true_and List.all List.map List.isEmpty Option.isSome ne_eq not_false_eq_true not_true_eq_false reduceCtorEq String.reduceEq String.reduceNe List.length_cons List.length_nil Nat.reduceAdd Nat.reduceMul Nat.reduceLT Nat.reduceLeDiff Nat.zero_add Value.oneCell' Nat.reduceEqDiff Option.getD List.getElem?_toArray List.getElem?_cons_zero List.getElem?_cons_succ List.size_toArray if_true if_false List.any Array.size decide_true decide_false Tryz.underlying3 Tryz.underlying5 Tryz.underlying9 Tryz.underlying47 Tryz.underlying48 Tryz.underlying51 Tryz.underlying127 Tryz.underlying173 Tryz.underlying174 Tryz.underlying219 Tryz.underlying220 Tryz.underlying273 qE qF qG qH qI qJ qK qL qM qN qO qP qQ qR qU qV qW qX qY
noncomputable def zo:SC (Tryz.f35.body.getD .skip):=SC.mk' (by simp only [Tryz.f35,go_sem];rfl)
theorem Jh:jc Tryz.prog 35 zo.1 [.tmp 6,.tmp 7] 46:=SC.ok zo (fn:=Tryz.f35) (by kernel_rfl) (by kernel_rfl) (by kernel_rfl) (by kernel_rfl) (by decide) (by kernel_rfl) (by kernel_rfl) (by kernel_rfl)
noncomputable def s20:SC (Tryz.f20.body.getD .skip):=SC.mk' (by simp only [Tryz.f20,go_sem];rfl)
theorem Ji:jc Tryz.prog 20 s20.1 [.tmp 6,.tmp 7] 48:=SC.ok s20 (fn:=Tryz.f20) (by kernel_rfl) (by kernel_rfl) (by kernel_rfl) (by kernel_rfl) (by decide) (by kernel_rfl) (by kernel_rfl) (by kernel_rfl)
end Go.Eng
namespace Go.Eng
open Go Go.Proofs
attribute [local go_sem] stripCode stripOps stripOper strip stripParts kindsOf kinds2 Option.bind List.filterMap reduceIte Bool.false_eq_true Bool.and_true Bool.and_self Bool.true_and and_self and_true true_and List.all List.map List.isEmpty Option.isSome ne_eq not_false_eq_true not_true_eq_false reduceCtorEq String.reduceEq String.reduceNe List.length_cons List.length_nil Nat.reduceAdd Nat.reduceMul Nat.reduceLT Nat.reduceLeDiff Nat.zero_add Value.oneCell' Nat.reduceEqDiff Option.getD List.getElem?_toArray List.getElem?_cons_zero List.getElem?_cons_succ List.size_toArray if_true if_false List.any Array.size decide_true decide_false Tryz.underlying3 Tryz.underlying5 Tryz.underlying9 Tryz.underlying47 Tryz.underlying48 Tryz.underlying51 Tryz.underlying127 Tryz.underlying173 Tryz.underlying174 Tryz.underlying219 Tryz.underlying220 Tryz.underlying273 qE qF qG qH qI qJ qK qL qM qN qO qP qQ qR qU qV qW qX qY
noncomputable def zq:SC (Tryz.f22.body.getD .skip):=SC.mk' (by simp only [Tryz.f22,go_sem];rfl)
theorem Jj:jc Tryz.prog 22 zq.1 [.tmp 4] 10:=SC.ok zq (fn:=Tryz.f22) (by kernel_rfl) (by kernel_rfl) (by kernel_rfl) (by kernel_rfl) (by decide) (by kernel_rfl) (by kernel_rfl) (by kernel_rfl)
noncomputable def zu:SC (Tryz.f56.body.getD .skip):=SC.mk' (by simp only [Tryz.f56,go_sem];rfl)
theorem Jk:jc Tryz.prog 56 zu.1 [.tmp 2] 21:=SC.ok zu (fn:=Tryz.f56) (by kernel_rfl) (by kernel_rfl) (by kernel_rfl) (by kernel_rfl) (by decide) (by kernel_rfl) (by kernel_rfl) (by kernel_rfl)
end Go.Eng
namespace Go.Eng
open Go Go.Proofs
attribute [local go_sem] stripCode stripOps stripOper strip stripParts kindsOf kinds2 Option.bind List.filterMap reduceIte Bool.false_eq_true Bool.and_true Bool.and_self Bool.true_and and_self and_true true_and List.all List.map List.isEmpty Option.isSome ne_eq not_false_eq_true not_true_eq_false reduceCtorEq String.reduceEq String.reduceNe List.length_cons List.length_nil Nat.reduceAdd Nat.reduceMul Nat.reduceLT Nat.reduceLeDiff Nat.zero_add Value.oneCell' Nat.reduceEqDiff Option.getD List.getElem?_toArray List.getElem?_cons_zero List.getElem?_cons_succ List.size_toArray if_true if_false List.any Array.size decide_true decide_false Tryz.underlying3 Tryz.underlying5 Tryz.underlying9 Tryz.underlying47 Tryz.underlying48 Tryz.underlying51 Tryz.underlying127 Tryz.underlying173 Tryz.underlying174 Tryz.underlying219 Tryz.underlying220 Tryz.underlying273 qE qF qG qH qI qJ qK qL qM qN qO qP qQ qR qU qV qW qX qY
noncomputable def zw:SC (Tryz.f36.body.getD .skip):=SC.mk' (by simp only [Tryz.f36,go_sem];rfl)
theorem Jl:jc Tryz.prog 36 zw.1 [.tmp 2] 7:=SC.ok zw (fn:=Tryz.f36) (by kernel_rfl) (by kernel_rfl) (by kernel_rfl) (by kernel_rfl) (by decide) (by kernel_rfl) (by kernel_rfl) (by kernel_rfl)
noncomputable def zx:SC (Tryz.f21.body.getD .skip):=SC.mk' (by simp only [Tryz.f21,go_sem];rfl)
theorem Jm:jc Tryz.prog 21 zx.1 [.tmp 2,.tmp 3] 79:=SC.ok zx (fn:=Tryz.f21) (by kernel_rfl) (by kernel_rfl) (by kernel_rfl) (by kernel_rfl) (by decide) (by kernel_rfl) (by kernel_rfl) (by kernel_rfl)
end Go.Eng
namespace Go.Eng
open Go Go.Proofs
attribute [local go_sem] stripCode stripOps stripOper strip stripParts kindsOf kinds2 Option.bind List.filterMap reduceIte Bool.false_eq_true Bool.and_true Bool.and_self Bool.true_and and_self and_true true_and List.all List.map List.isEmpty Option.isSome ne_eq not_false_eq_true not_true_eq_false reduceCtorEq String.reduceEq String.reduceNe List.length_cons List.length_nil Nat.reduceAdd Nat.reduceMul Nat.reduceLT Nat.reduceLeDiff Nat.zero_add Value.oneCell' Nat.reduceEqDiff Option.getD List.getElem?_toArray List.getElem?_cons_zero List.getElem?_cons_succ List.size_toArray if_true if_false List.any Array.size decide_true decide_false Tryz.underlying3 Tryz.underlying5 Tryz.underlying9 Tryz.underlying47 Tryz.underlying48 Tryz.underlying51 Tryz.underlying127 Tryz.underlying173 Tryz.underlying174 Tryz.underlying219 Tryz.underlying220 Tryz.underlying273 qE qF qG qH qI qJ qK qL qM qN qO qP qQ qR qU qV qW qX qY
noncomputable def s8:SC (Tryz.f8.body.getD .skip):=SC.mk' (by simp only [Tryz.f8,go_sem];rfl)
theorem BP:jc Tryz.prog 8 s8.1 [.cell 2 true 4,.tmp 3] 50:=SC.ok s8 (fn:=Tryz.f8) (by kernel_rfl) (by kernel_rfl) (by kernel_rfl) (by kernel_rfl) (by decide) (by kernel_rfl) (by kernel_rfl) (by kernel_rfl)
end Go.Eng
namespace Go.Eng
open Go Go.Proofs
theorem zy {p:Nat} (h:p<=100000):IntKind.i64.wrap ((p:Int)+1)=((p+1:Nat):Int):=by rw [jy (by omega)];omega
attribute [go_sem] Og
def Jo (l:List Int) (a:Nat):Int:=l[a]?.getD 0
def nV (l:List Int) (a:Nat) (n:Int):Int:=if n<1 then 0 else if (Jo l a).tmod n<0 then (Jo l a).tmod n+n else (Jo l a).tmod n
end Go.Eng
namespace Go.Eng
open Go Go.Proofs
end Go.Eng
namespace Go.Eng
open Go Go.Proofs
end Go.Eng
namespace Go.Eng
open Go Go.Proofs
def aG.ok (m:aG):Prop:=(1<=m.id/\m.id<=1073741824)/\(0<=m.route/\m.route<=65535)/\(0<=m.epoch/\m.epoch<=1000)/\(0<=m.count/\m.count<=3)/\(m.count<=m.gen/\m.gen<=65536)/\(0<=m.sent/\m.sent<=1000)/\m.body.size<=3
end Go.Eng
namespace Go.Eng
open Go Go.Proofs
def jf (x lo hi:Int):Bool:=decide (lo<=x)&&decide (x<=hi)
def aG.good (m:aG):Bool:=jf m.id 1 1073741824&&(jf m.route 0 65535&&(jf m.epoch 0 65536&&(jf m.count 0 8&&(jf m.gen m.count 65536&&jf m.sent 0 1073741824))))
def aG.val (m:aG):Int:=if m.good then (if 16<m.body.size then 2 else 0) else 1
end Go.Eng
namespace Go.Eng
open Go Go.Proofs
def uW (ms:List aG):List (List AV):=ms.map aG.enc
theorem Oh (ms:List aG):(uW ms).length=ms.length:=by simp [uW]
theorem eH (m:aG):m.enc.length=7:=rfl
theorem ah8 (m:aG):m.enc.take 7=m.enc:=rfl
theorem ah9 (m:aG):fB m.enc=true:=rfl
theorem aia (m:aG):qj m.enc=true:=rfl
theorem aib (m:aG):(AV.agg m.enc).pure=true:=rfl
attribute [go_sem] Oh eH ah8 ah9 aia aib
def ids (ms:List aG):List Int:=ms.map aG.id
theorem aic:∀ m:aG,l6 [0,0,0,0,0,0,1] m.enc m.enc=some true:=fun m=>by
 simp [l6,aG.enc]
attribute [go_sem] aic
def jV:List aG->Int
 |[]=>0
 |m::ms=>if m.val≠0 then m.val else jV ms
def Er (xs:List Int):List (Value×AV):=xs.map fun i=>(.int .i64 i,Bo true)
theorem aid (h:List (Nat×Ob)) (S:List (Nat×Nat)) (N:List Nat) (l:List Int):qw h S N (Er l) (Er l)=True:=by
 simp only [eq_iff_iff,iff_true]
 induction l with
 |nil=>simp [Er,qw]
 |cons x l ih=>simp only [Er,List.map_cons,qw,rv,true_and] at ih ⊢;exact ih
attribute [go_sem] aid
def dup (ms:List aG):Bool:= !decide ((ids ms).Nodup)
def Es (ms:List aG) (x:Int):Int:=if x ∈ ids ms then ((ids ms).idxOf x:Nat) else -1
end Go.Eng
namespace Go.Eng
open Go Go.Proofs
def zA (ms:List aG):Int:=if jV ms≠0 then jV ms else if dup ms then 10 else 0
end Go.Eng
namespace Go.Eng
open Go Go.Proofs
def zM:aG:=⟨0,0,0,0,0,0,⟨#[]⟩⟩
def gt (l:List aG) (k:Nat):aG:=l[k]?.getD zM
theorem Oi {l:List aG} {k:Nat} (h:k<l.length):gt l k=l[k]:=by simp [gt,h]
theorem aie {l:List aG} {k:Nat} (h:l.length<=k):gt l k=zM:=by simp [gt,List.getElem?_eq_none h]
theorem aif {n h i:Nat} (hi:i<n) (hh:h<n):((h+i) % n+n - h) % n=i:=by
 by_cases e:h+i<n
 ·rw [Nat.mod_eq_of_lt e,show h+i+n - h=i+n by omega,Nat.add_mod_right,Nat.mod_eq_of_lt hi]
 ·rw [show (h+i) % n=h+i - n by rw [Nat.mod_eq_sub_mod (by omega),Nat.mod_eq_of_lt (by omega)],show h+i - n+n - h=i by omega,Nat.mod_eq_of_lt hi]
def pF (n h:Nat) (f:Nat->aG):List aG:=(List.range n).map fun p=>f ((p+n - h) % n)
theorem Et (n h:Nat) (f:Nat->aG):(pF n h f).length=n:=by simp [pF]
theorem aii {n h:Nat} {f:Nat->aG} {p:Nat} (hp:p<(pF n h f).length):(pF n h f)[p]=f ((p+n - h) % n):=by simp [pF]
theorem aij {n h i:Nat} (f:Nat->aG) (hi:i<n) (hh:h<n):gt (pF n h f) ((h+i) % n)=f i:=by
 have hlt:(h+i) % n<(pF n h f).length:=by rw [Et];exact Nat.mod_lt _ (by omega)
 rw [Oi hlt,aii,aif hi hh]
def qZ (n h:Nat) (l:List aG):List aG:=pF n h (gt l)
theorem zB (n h:Nat) (l:List aG):(qZ n h l).length=n:=Et ..
theorem Oj {n h i:Nat} (l:List aG) (hi:i<n) (hh:h<n):gt (qZ n h l) ((h+i) % n)=gt l i:=aij _ hi hh
def xh (cs:List aG) (h s:Nat):List aG:=(List.range s).map fun i=>gt cs ((h+i) % cs.length)
theorem Ol {n h:Nat} {l:List aG} (hl:l.length<=n) (hh:h<n):xh (qZ n h l) h l.length=l:=by
 refine List.ext_getElem (by simp [xh]) fun i h1 h2=> ?_
 simp only [xh,List.getElem_map,List.getElem_range,zB]
 rw [Oj l (by omega) hh,Oi h2]
end Go.Eng
namespace Go.Eng
open Go Go.Proofs
theorem tmN (a m:Nat):((a:Nat):Int).tmod ((m:Nat):Int)=((a % m:Nat):Int):=rfl
theorem ail:IntKind.i64.wrap 0=0:=rfl
theorem aim (n:Nat):decide ((n:Int)<0)=false:=by simp
theorem ain:kills []=[]:=rfl
theorem aio (b:Nat) (Z:List Nat):kills (b::Z)=(b,Ob.dead)::kills Z:=rfl
attribute [go_sem] ail aim ain aio tmN
theorem Fin.Om {res:List fP} {r:AV} {t:List (Nat×AV)} {h:List (Nat×Ob)} {e:TypeId} {sz:Nat} {xs:List (List AV)} (b:Nat) (vs:List AV) (h1:oU t h res=some vs) (hb:get h b=some (.row e sz xs))
  (h2:sN h [(4,b)] [] [(4,.row e sz xs)]=true) (h3:rv h [(4,b)] [] r (lF vs)):Fin res r [] [.row e sz xs] t h:=by
 have e:outs [] [.row e sz xs]=[(4,.row e sz xs)]:=rfl
 refine ⟨[(4,b)],[],vs,h1,by rw [e];exact h2,?_,by simp only [qx],h3⟩
 rw [e]
 simp only [gX,get,if_true,hb,and_true,cO,and_self]
theorem BQ {P:Program} {f:FuncId} {xs ys:List AV} {r:AV} {nm:Nat} {h:List (Nat×Ob)} {k:List It} {Q:Exit->St->Prop} {n n':Nat} {t:List (Nat×AV)} {d:Option Nat} {l:List SOper}
  (hF:Fn P f xs [] r [] []) (ha:aN h [] [] xs ys) (hr:r.pure=true) (hn:na r=true) (hk:go P (.ops (nm+8) n' l::k) Q n (aZ t d r) h):wW P nm f ys d n' l k Q n t h:=
 IL (hF.ahD ha hr hn) (by simpa using hk)
theorem aip (bs:List (List AV)) (gs:List Ob):outs bs gs=fC 0 (bs.map .box)++fC 4 gs:=rfl
attribute [go_sem] aip fC
end Go.Eng
namespace Go.Eng
open Go Go.Proofs
def eqv (a b:aG):Bool:=(a.id==b.id)&&((a.route==b.route)&&((a.epoch==b.epoch)&&((a.count==b.count)&&((a.gen==b.gen)&&((a.sent==b.sent)&&((a.body.toList==b.body.toList)&&true))))))
theorem aiq (a b:aG):l6 [0,0,0,0,0,0,1] a.enc b.enc=some (eqv a b):=by
 simp only [l6,aG.enc,if_true,eqv]
theorem air (a:aG):l6 [0,0,0,0,0,0,1] a.enc [.v (.int .i64 0),.v (.int .i64 0),.v (.int .i64 0),.v (.int .i64 0),.v (.int .i64 0),.v (.int .i64 0),.v (.string ⟨#[]⟩)]=some (eqv a zM):=aiq a zM
theorem ais (a:aG):eqv a a=true:=by simp [eqv]
attribute [go_sem] air
def Oo (cs:List aG) (h s:Int):Bool:=decide (1<=cs.length)&&(decide (cs.length<=12)&&(decide (0<=h)&&(decide (h<cs.length)&&(decide (0<=s)&&decide (s<=cs.length)))))
def Oq (cs:List aG) (h s:Nat):Bool:=(List.range cs.length).all fun i=>decide (i<s)||eqv (gt cs ((h+i) % cs.length)) zM
def zC (cs:List aG) (h s:Int):Int:=if Oo cs h s=false then 1 else if Oq cs h.toNat s.toNat=false then 7 else zA (xh cs h.toNat s.toNat)
structure ayw (ms:List aG) where
 j:Nat
 es:List Int
 b:Bool
 hj:j<=ms.length
 inv:jV (ms.take j)=0
 mem:∀ x,x ∈ es↔x ∈ (ids ms).take j
 hb:b= !decide (((ids ms).take j).Nodup)
structure Rg (n h:Nat) (l:List aG):Prop where
 n1:1<=n
 n2:n<=12
 hh:h<n
 ll:l.length<=n
 snd:zA l=0
theorem Rg.ok {n h:Nat} {l:List aG} (r:Rg n h l):zC (qZ n h l) h l.length=0:=by
 have:=r.n1;have:=r.n2;have:=r.hh;have:=r.ll
 unfold zC
 rw [if_neg (by simp [Oo,zB];omega),if_neg]
 ·rw [Int.toNat_natCast,Int.toNat_natCast,Ol r.ll r.hh];exact r.snd
 ·simp only [Bool.not_eq_false,Oq,List.all_eq_true,List.mem_range,Bool.or_eq_true,decide_eq_true_eq,zB,Int.toNat_natCast]
  intro i hi
  by_cases h1:i<l.length
  ·exact .inl h1
  ·right
   rw [Oj l hi r.hh,aie (by omega)]
   exact ais _
end Go.Eng
namespace Go.Eng
open Go Go.Proofs
theorem Jp (cs:List aG):(uW cs).take cs.length=uW cs:=by rw [<-Oh,List.take_length]
theorem ait (n h:Nat) (l:List aG):(uW (qZ n h l)).take n=uW (qZ n h l):=by have:=Jp (qZ n h l);rwa [zB] at this
theorem aiu (m:aG):m.enc.drop 7=[]:=rfl
theorem aiv (h:List (Nat×Ob)) (S:List (Nat×Nat)) (N:List Nat) (m:aG):aN h S N m.enc m.enc:=BG _ rfl
attribute [go_sem] Jp ait zB aiu aiv
def BR (cs:List aG) (h s:Int) (m:aG):Int:=
 if zC cs h s≠0 then zC cs h s else if m.val≠0 then m.val else if s=cs.length then 3 else if 0<=Es (xh cs h.toNat s.toNat) m.id then 10 else 0
theorem aiw {cs:List aG} {h s:Int} {m:aG} (e:BR cs h s m=0):zC cs h s=0/\s≠cs.length/\m.val=0/\¬ 0<=Es (xh cs h.toNat s.toNat) m.id:=by
 unfold BR at e
 by_cases h1:zC cs h s=0
 ·by_cases h2:m.val=0
  ·by_cases h3:s=cs.length
   ·rw [if_neg (by simp [h1]),if_neg (by simp [h2]),if_pos h3] at e;cases e
   ·rw [if_neg (by simp [h1]),if_neg (by simp [h2]),if_neg h3] at e
    by_cases h4:0<=Es (xh cs h.toNat s.toNat) m.id
    ·rw [if_pos h4] at e;cases e
    ·exact ⟨h1,h3,h2,h4⟩
  ·rw [if_neg (by simp [h1]),if_pos h2] at e;exact absurd e h2
 ·rw [if_pos h1] at e;exact absurd e h1
end Go.Eng
namespace Go.Eng
open Go Go.Proofs
theorem aix (n h:Nat) (f:Nat->aG):(uW (pF n h f)).take n=uW (pF n h f):=by have:=Jp (pF n h f);rwa [Et] at this
attribute [go_sem] aix Et
end Go.Eng
namespace Go.Eng
open Go Go.Proofs
end Go.Eng
namespace Go.Eng
open Go Go.Proofs
end Go.Eng
namespace Go.Eng
open Go Go.Proofs
end Go.Eng
namespace Go.Eng
open Go Go.Proofs
theorem aiy {l:List aG} (h:jV l=0) (k:Nat):jV (l.take k)=0:=by
 induction l generalizing k with
 |nil=>simp [jV]
 |cons m l ih=>
  cases k with
  |zero=>rfl
  |succ k=>
   simp only [List.take_succ_cons,jV] at h ⊢
   by_cases hm:m.val≠0
   ·rw [if_pos hm] at h;exact absurd h hm
   ·rw [if_neg hm] at h ⊢;exact ih h k
theorem Ot {l:List aG} (h:zA l=0):jV l=0/\dup l=false:=by
 unfold zA at h
 by_cases h1:jV l=0
 ·rw [if_neg (fun hx=>hx h1)] at h
  refine ⟨h1,?_⟩
  cases hd:dup l with
  |true=>rw [hd] at h;simp at h
  |false=>rfl
 ·rw [if_pos h1] at h;exact absurd h h1
theorem Ou {l:List aG} (h1:jV l=0) (h2:dup l=false):zA l=0:=by
 unfold zA
 rw [if_neg (fun hx=>hx h1),h2];rfl
theorem Ov {l:List aG} (h:dup l=false):(ids l).Nodup:=by simpa [dup] using h
theorem Rg.take {n h:Nat} {l:List aG} (rg:Rg n h l) (k:Nat):Rg n h (l.take k):=by
 obtain ⟨h1,h2⟩:=Ot rg.snd
 refine ⟨rg.n1,rg.n2,rg.hh,by have:=rg.ll;simp only [List.length_take];omega,Ou (aiy h1 k) ?_⟩
 have e:ids (l.take k)=(ids l).take k:=by simp [ids,List.map_take]
 simp only [dup,e,Bool.not_eq_false',decide_eq_true_eq]
 exact (Ov h2).sublist (List.take_sublist _ _)
theorem aiz {l ms:List aG} (h:jV l=0):jV (l++ms)=jV ms:=by
 induction l with
 |nil=>rfl
 |cons m l ih=>
  simp only [List.cons_append,jV] at h ⊢
  by_cases hm:m.val≠0
  ·rw [if_pos hm] at h;exact absurd h hm
  ·rw [if_neg hm] at h ⊢;exact ih h
theorem Rg.push {n h:Nat} {l:List aG} {m:aG} (rg:Rg n h l) (e:BR (qZ n h l) h l.length m=0):Rg n h (l++[m]):=by
 obtain ⟨_,h2,h3,h4⟩:=aiw e
 obtain ⟨i1,i2⟩:=Ot rg.snd
 rw [zB] at h2
 rw [Int.toNat_natCast,Int.toNat_natCast,Ol rg.ll rg.hh] at h4
 have hni:m.id ∉ ids l:=fun hx=>h4 (by unfold Es;rw [if_pos hx];omega)
 refine ⟨rg.n1,rg.n2,rg.hh,by have:=rg.ll;simp;omega,Ou ?_ ?_⟩
 ·rw [aiz i1];simp [jV,h3]
 ·have:(ids (l++[m])).Nodup:=by
   simp only [ids,List.map_append,List.map_cons,List.map_nil,List.nodup_append]
   refine ⟨Ov i2,by simp,fun a ha b hb=> ?_⟩
   simp only [List.mem_singleton] at hb
   subst hb
   intro e;subst e;exact hni ha
  simp [dup,this]
def Jq (n h:Nat):List aG->List aG->Int×List aG
 |l,[]=>(0,l)
 |l,m::ms=>if BR (qZ n h l) h l.length m≠0 then (BR (qZ n h l) h l.length m,l) else Jq n h (l++[m]) ms
structure ayx (n h:Nat) (l0 ms:List aG) where
 j:Nat
 l:List aG
 hj:j<=ms.length
 rg:Rg n h l
 eq:Jq n h l0 ms=Jq n h l (ms.drop j)
end Go.Eng
namespace Go.Eng
open Go Go.Proofs
end Go.Eng
namespace Go.Eng
open Go Go.Proofs
end Go.Eng
namespace Go.Eng
open Go Go.Proofs
def tkS (k ep:Int) (q:List aG×List aG) (m:aG):List aG×List aG:=
 if (q.1.length:Int)<k then (if m.epoch<ep then (q.1,q.2++[m]) else (q.1++[m],q.2)) else (q.1,q.2++[m])
def tk (k ep:Int) (ms:List aG):List aG×List aG:=ms.foldl (tkS k ep) ([],[])
def prg (ep:Int) (m:aG):Bool:=decide (m.epoch<ep)
def keep (ep:Int) (ms:List aG):List aG:=ms.filter fun m=> !prg ep m
theorem aiC:((0:Int) !=0)=false:=rfl
theorem aiD:((10:Int) !=0)=true:=rfl
attribute [go_sem] aiC aiD
end Go.Eng
namespace Go.Eng
open Go Go.Proofs
def pk (l:List Int) (a:Nat) (zs:List Int):Int:=zs[(nV l a zs.length).toNat]?.getD 0
end Go.Eng
namespace Go.Eng
open Go
theorem Ow (k:IntKind) (j:Nat) (hj:j<=k.bits) (hk:∀ n:Int,0<=n->n<2 ^ j->k.wrap n=n) (a b:Nat) (ha:a<2 ^ j) (hb:b<2 ^ j):
  bits .xor k a b=((a ^^^ b:Nat):Int):=by
 have hp:2 ^ j<=2 ^ k.bits:=Nat.pow_le_pow_right (by decide) hj
 have ha':a % 2 ^ k.bits=a:=Nat.mod_eq_of_lt (Nat.lt_of_lt_of_le ha hp)
 have hb':b % 2 ^ k.bits=b:=Nat.mod_eq_of_lt (Nat.lt_of_lt_of_le hb hp)
 have cast:∀ n:Nat,n<2 ^ j->((n:Nat):Int)<2 ^ j:=fun n h=>by exact_mod_cast h
 simp only [bits,BitVec.ofInt_natCast,BitVec.toNat_xor,BitVec.toNat_ofNat,ha',hb']
 exact hk _ (Int.natCast_nonneg _) (cast _ (Nat.xor_lt_two_pow ha hb))
theorem Eu (n:Int) (h0:0<=n) (h1:n<2 ^ 63):IntKind.i64.wrap n=n:=by rw [IntKind.wrap_i64];omega
theorem aiE (n:Int) (h0:0<=n) (h1:n<2 ^ 32):IntKind.u32.wrap n=n:=by rw [IntKind.wrap_u32];omega
def hs (h x:Nat):Nat:=((h ^^^ x)*16777619) % 4294967296
def jA (h:Nat):List UInt8->Nat
 |[]=>h
 |x::b=>jA (hs h x.toNat) b
theorem Ox (h:Nat):∀ a b,jA h (a++b)=jA (jA h a) b
 |[],_=>rfl
 |x::a,b=>Ox (hs h x.toNat) a b
theorem aiF (h x:Nat):hs h x<4294967296:=Nat.mod_lt _ (by decide)
theorem BS:∀ (b:List UInt8) (h:Nat),h<4294967296->jA h b<4294967296
 |[],_,h=>h
 |x::b,h,_=>BS b _ (aiF h x.toNat)
theorem aiG {α:Type} (b:List α) (j:Nat) (h:j<b.length):b.take (j+1)=b.take j++[b[j]]:=by
 rw [List.take_succ_eq_append_getElem h]
theorem Oy (h:Nat) (b:List UInt8) (j:Nat) (hj:j<b.length):jA h (b.take (j+1))=hs (jA h (b.take j)) b[j].toNat:=by
 rw [aiG b j hj,Ox];rfl
def pG (b:List UInt8):Nat:=jA 2166136261 (90::b)
theorem Jr (b:List UInt8):pG b<4294967296:=BS _ _ (by decide)
theorem Oz {h x:Nat} (h1:h<4294967296) (h2:x<256):h ^^^ x<4294967296:=Nat.xor_lt_two_pow (n:=32) h1 (by omega)
theorem aiH (h x:Nat) (h1:h<4294967296) (h2:x<256):bits .and .i64 (IntKind.i64.wrap (bits .xor .i64 (h:Int) (x:Int)*16777619)) 4294967295=((hs h x:Nat):Int):=by
 have e1:=Oz h1 h2
 rw [Ow .i64 63 (by decide) Eu h x (by omega) (by omega),Eu _ (by omega) (by omega)]
 have e2:=bits_mask .i64 63 (by decide) Eu 32 (by decide) (((h ^^^ x:Nat):Int)*16777619) (by omega) (by omega)
 have e3:((2:Int) ^ 32 - 1)=4294967295:=by decide
 rw [e3] at e2
 rw [e2]
 unfold hs
 omega
theorem aiI (h x:Nat) (h1:h<4294967296) (h2:x<256):IntKind.u32.wrap (bits .xor .u32 (h:Int) (x:Int)*16777619)=((hs h x:Nat):Int):=by
 have e1:=Oz h1 h2
 rw [Ow .u32 32 (by decide) aiE h x (by omega) (by omega),IntKind.wrap_u32]
 unfold hs
 omega
def be (n:Nat):Nat->Nat->List UInt8
 |_,0=>[]
 |s,q+1=>be n s q++[(n / 2 ^ (8*(s - 1 - q))).toUInt8]
def jB (n s:Nat):List UInt8:=be n s s
theorem zD (n s:Nat):∀ q,(be n s q).length=q
 |0=>rfl
 |q+1=>by simp [be,zD n s q]
theorem pI (n s:Nat):(jB n s).length=s:=zD n s s
def mH (b:List UInt8) (i:Nat):Nat:=(b[i]?.getD 0).toNat
theorem Js (b:List UInt8) (i:Nat):mH b i<256:=(b[i]?.getD 0).toNat_lt
def gN (b:List UInt8) (a:Nat):Nat->Nat
 |0=>0
 |j+1=>gN b a j*256+mH b (a+j)
theorem OA (b:List UInt8) (a:Nat):∀ j,gN b a j<256 ^ j
 |0=>by simp [gN]
 |j+1=>by
  have:=OA b a j
  have:=Js b (a+j)
  simp only [gN,Nat.pow_succ]
  omega
def Hd.ok (h:Hd):Prop:=(1<=h.id/\h.id<=1073741824)/\(1<=h.gen/\h.gen<=65536)/\(0<=h.route/\h.route<65536)/\(0<=h.hint/\h.hint<6)
instance (h:Hd):Decidable h.ok:=by unfold Hd.ok;exact inferInstance
def jW (h:Hd):List UInt8:=[113]++jB h.id.toNat 4++jB h.gen.toNat 3++jB h.route.toNat 2++[h.hint.toNat.toUInt8,0]
def rf (h:Hd):List UInt8:=jW h++jB (pG (jW h)) 4
theorem aiJ (h:Hd):(rf h).length=16:=by simp [rf,jW,pI]
def zH:Hd:=⟨0,0,0,0⟩
def jg (b:List UInt8):Hd:=⟨gN b 1 4,gN b 5 3,gN b 8 2,gN b 10 1⟩
def parse (b:List UInt8):Option Hd:=if b.length=16/\(jg b).ok/\rf (jg b)=b then some (jg b) else none
theorem OB (n:Nat):n.toUInt8.toNat=n % 256:=rfl
end Go.Eng
namespace Go.Eng
open Go Go.Proofs
attribute [local go_sem] Int.cast_ofNat_Int Int.reduceBEq Int.reduceLT Int.reduceLE Int.reduceSub Int.reduceAdd Int.reduceNeg Int.reduceEq Int.reduceToNat decide_true decide_false decide_eq_true_eq beq_self_eq_true bne_self_eq_false List.reduceReplicate List.length_set List.length_replicate List.length_cons List.length_nil List.set_cons_zero List.set_cons_succ Int.toNat_natCast
theorem BU {b:List UInt8} {k:Nat} (h:k<b.length):nth (bG b) k=[B8 b[k]]:=by simp [bG,nth,h]
theorem OC {b:List UInt8} {k:Nat} (h:k<b.length):nth (bG b) k=[.v (.int .u8 (mH b k:Nat))]:=by rw [BU h];simp [mH,h]
theorem OD (b:List UInt8) (k:Nat):(bG b).take k=bG (b.take k):=by simp [bG,List.map_take]
theorem aiK (b:List UInt8) (k:Nat):(bG b).drop k=bG (b.drop k):=by simp [bG,List.map_drop]
theorem aiL (b:List UInt8):(bG b).take b.length=bG b:=by rw [OD,List.take_length]
attribute [go_sem] iD aiL
theorem OE (n k:Nat):IntKind.u8.wrap ((n:Int).fdiv (2 ^ k))=(((n / 2 ^ k).toUInt8.toNat:Nat):Int):=by
 rw [IntKind.wrap_u8,OB,Int.fdiv_eq_ediv_of_nonneg _ (by exact_mod_cast Nat.zero_le (2 ^ k))]
 rfl
theorem xk (b:List UInt8) (n s q:Nat):bG (b++be n s q)++[[.v (.int .u8 ((n / 2 ^ (8*(s - 1 - q))).toUInt8.toNat:Nat))]]=bG (b++be n s (q+1)):=by
 simp [bG,be]
theorem Ew (b:List UInt8) (n s:Nat) (hb:b.length<=1000) (hs:1<=s/\s<=4) (hn:n<2 ^ (8*s)):Fn Tryz.prog 35 [dJ b,I n,I s] [] (.aT [.own 4 1 0 (b.length+s),I 0]) [] [.row 5 1 (bG (b++jB n s))]:=by
 refine Fn.jT Jh (by simp) ?_
 unfold zo SC.mk'
 have hn4:n<4294967296:=by rcases (show s=1\/s=2\/s=3\/s=4 by omega) with rfl|rfl|rfl|rfl<;>simp at hn<;>omega
 have e1:decide ((n:Int)<0)=false:=by rw [decide_eq_false_iff_not];omega
 have e2:IntKind.i64.wrap (1*2 ^ (min (IntKind.u64.wrap (IntKind.i64.wrap (8*(s:Int)))).toNat 64))=((2 ^ (8*s):Nat):Int):=by
  rcases (show s=1\/s=2\/s=3\/s=4 by omega) with rfl|rfl|rfl|rfl<;>decide
 have e3:decide (((2 ^ (8*s):Nat):Int)<=(n:Int))=false:=by rw [decide_eq_false_iff_not];omega
 have e4:IntKind.i64.wrap ((s:Int) - 1)=(s:Int) - 1:=jy (by omega)
 have e5:decide ((s:Int)<1)=false:=by simp;omega
 have e6:decide ((6:Int)<(s:Int))=false:=by simp;omega
 have m1:b.length<=maxLen:=Nat.le_trans hb (by decide)
 simp only [e1,e2,e3,e4,e5,e6,go_sem]
 refine ⟨⟨by omega,m1⟩,?_⟩
 refine go_loop (fun q:{q:Nat // q<=s}=>⟨1000,[(1,I n),(8,.own 176 1 0 (b.length+q.1)),(9,I ((s:Int) - 1 - (q.1:Int)))],[(176,.row 5 1 (bG (b++be n s q.1)))]⟩) (fun q=>s - q.1) ⟨0,by omega⟩
  (Wk.mk [(176,176)] [] rfl rfl (by simp only [gX,cO,aN,rv,be,List.append_nil,List.take_length,go_sem]) (by simp only [go_sem]) (by simp only [rv,be,go_sem];try simp)) ?_
 intro q B hB
 simp only [go_sem]
 refine mE (fun h2=> ?_) (fun h2=> ?_)<;>simp only [h2,go_sem]
 ·have e7:q.1<s:=by simp only [decide_eq_true_eq] at h2;omega
  have e8:IntKind.u64.wrap (IntKind.i64.wrap (8*((s:Int) - 1 - (q.1:Int))))=((8*(s - 1 - q.1):Nat):Int):=by rw [jy (by omega),IntKind.wrap_u64];omega
  have e9:min (8*(s - 1 - q.1)) 64=8*(s - 1 - q.1):=by omega
  have e10:IntKind.i64.wrap ((s:Int) - 1 - (q.1:Int) - 1)=(s:Int) - 1 - ((q.1+1:Nat):Int):=by rw [jy (by omega)];omega
  have e11:(bG (b++be n s q.1)).take (b.length+q.1)=bG (b++be n s q.1):=List.take_of_length_le (by simp [iD,zD])
  simp only [e8,e9,e10,e11,OE,Int.toNat_natCast,List.reduceReplicate,List.length_set,List.length_replicate,List.length_cons,List.length_nil,List.set_cons_zero,List.set_cons_succ,List.drop_zero,xk,List.length_append,zD,go_sem]
  have hm:b.length+q.1+1<=maxLen:=Nat.le_trans (show b.length+q.1+1<=2000 by omega) (by decide)
  exact ⟨⟨by omega,hm,Nat.le_refl _⟩,hB _ ⟨q.1+1,by omega⟩ (by simp only;omega) (Wk.mk [(176,1080)] [] rfl rfl (by simp only [gX,cO,aN,rv,go_sem]) (by simp only [go_sem]) (by simp only [rv,go_sem];try rw [Nat.add_assoc]))⟩
 ·have e7:q.1=s:=by have:=q.2;simp only [decide_eq_false_iff_not] at h2;omega
  simp only [e7,go_sem]
  exact Fin.Om 176 _ rfl rfl rfl (by simp only [lF,rv,aN,get,if_true,and_self,go_sem])
theorem OG (b:List UInt8) (n s:Nat) (hb:b.length<=1000) (hs:1<=s/\s<=4) (hn:n<2 ^ (8*s)):Fn Tryz.prog 138 [dJ b,I n,I s] [] (.aT [.own 4 1 0 (b.length+s),I 0]) [] [.row 5 1 (bG (b++jB n s))]:=by
 refine Fn.jT Jb (by simp) ?_
 unfold ze SC.mk'
 have hn4:n<4294967296:=by rcases (show s=1\/s=2\/s=3\/s=4 by omega) with rfl|rfl|rfl|rfl<;>simp at hn<;>omega
 have e1:decide ((n:Int)<0)=false:=by rw [decide_eq_false_iff_not];omega
 have e2:IntKind.i64.wrap (1*2 ^ (min (IntKind.i64.wrap (8*(s:Int))).toNat 64))=((2 ^ (8*s):Nat):Int):=by
  rcases (show s=1\/s=2\/s=3\/s=4 by omega) with rfl|rfl|rfl|rfl<;>decide
 have e3:decide (((2 ^ (8*s):Nat):Int)<=(n:Int))=false:=by rw [decide_eq_false_iff_not];omega
 have e4:IntKind.i64.wrap ((s:Int) - 1)=(s:Int) - 1:=jy (by omega)
 have e5:decide ((s:Int)<1)=false:=by simp;omega
 have e6:decide ((6:Int)<(s:Int))=false:=by simp;omega
 have m1:b.length<=maxLen:=Nat.le_trans hb (by decide)
 simp only [e1,e2,e3,e4,e5,e6,go_sem]
 refine ⟨by rw [jy (by omega)];omega,⟨by omega,m1⟩,?_⟩
 refine go_loop (fun q:{q:Nat // q<=s}=>⟨1000,[(1,I n),(8,.own 168 1 0 (b.length+q.1)),(9,I ((s:Int) - 1 - (q.1:Int)))],[(168,.row 5 1 (bG (b++be n s q.1)))]⟩) (fun q=>s - q.1) ⟨0,by omega⟩
  (Wk.mk [(168,168)] [] rfl rfl (by simp only [gX,cO,aN,rv,be,List.append_nil,List.take_length,go_sem]) (by simp only [go_sem]) (by simp only [rv,be,go_sem];try simp)) ?_
 intro q B hB
 simp only [go_sem]
 refine mE (fun h2=> ?_) (fun h2=> ?_)<;>simp only [h2,go_sem]
 ·have e7:q.1<s:=by simp only [decide_eq_true_eq] at h2;omega
  have e8:IntKind.i64.wrap (8*((s:Int) - 1 - (q.1:Int)))=((8*(s - 1 - q.1):Nat):Int):=by rw [jy (by omega)];omega
  have e9:min (8*(s - 1 - q.1)) 64=8*(s - 1 - q.1):=by omega
  have e10:IntKind.i64.wrap ((s:Int) - 1 - (q.1:Int) - 1)=(s:Int) - 1 - ((q.1+1:Nat):Int):=by rw [jy (by omega)];omega
  have e11:(bG (b++be n s q.1)).take (b.length+q.1)=bG (b++be n s q.1):=List.take_of_length_le (by simp [iD,zD])
  simp only [e8,e9,e10,e11,OE,Int.toNat_natCast,List.reduceReplicate,List.length_set,List.length_replicate,List.length_cons,List.length_nil,List.set_cons_zero,List.set_cons_succ,List.drop_zero,xk,List.length_append,zD,go_sem]
  have hm:b.length+q.1+1<=maxLen:=Nat.le_trans (show b.length+q.1+1<=2000 by omega) (by decide)
  exact ⟨by omega,⟨by omega,hm,Nat.le_refl _⟩,hB _ ⟨q.1+1,by omega⟩ (by simp only;omega) (Wk.mk [(168,1072)] [] rfl rfl (by simp only [gX,cO,aN,rv,go_sem]) (by simp only [go_sem]) (by simp only [rv,go_sem];try rw [Nat.add_assoc]))⟩
 ·have e7:q.1=s:=by have:=q.2;simp only [decide_eq_false_iff_not] at h2;omega
  simp only [e7,go_sem]
  exact Fin.Om 168 _ rfl rfl rfl (by simp only [lF,rv,aN,get,if_true,and_self,go_sem])
theorem BV (x lo hi:Int):Fn Tryz.prog 137 [I x,I lo,I hi] [] (Bo (jf x lo hi)) [] []:=by
 refine Fn.jT Ja (by simp) ?_
 unfold za SC.mk'
 simp only [go_sem]
 refine IK (fun h1=> ?_) (fun h1=> ?_)
 ·simp only [h1,go_sem]
  refine Fin.gD _ rfl rfl rfl ?_
  simp only [lF,jf,h1,Bool.true_and]
 ·simp only [h1,go_sem]
  refine Fin.gD _ rfl rfl rfl ?_
  simp only [lF,jf,h1,Bool.false_and]
theorem OH (b:List UInt8) (hl:b.length<=100000):Fn Tryz.prog 56 [dJ b] [] (I (jA 2166136261 b:Nat)) [] []:=by
 refine Fn.jT Jk (by simp) ?_
 unfold zu SC.mk'
 simp only [go_sem]
 refine go_loop (fun j:{j:Nat // j<=b.length}=>⟨1000,[(0,dJ b),(3,I (jA 2166136261 (b.take j.1):Nat)),(4,I j.1)],[]⟩) (fun j=>b.length - j.1) ⟨0,by omega⟩
  (Wk.mk [] [] rfl rfl (by simp only [go_sem]) (by simp only [go_sem]) (by simp only [rv,jA,List.take_zero,go_sem]<;>exact ⟨rfl,rfl⟩)) ?_
 intro j B hB
 simp only [go_sem]
 refine mE (fun h1=> ?_) (fun h1=> ?_)<;>simp only [h1,go_sem]
 ·have e1:j.1<b.length:=by simp only [decide_eq_true_eq] at h1;omega
  have e2:=BS (b.take j.1) 2166136261 (by decide)
  have e3:b[j.1].toNat<256:=b[j.1].toNat_lt
  simp only [Int.toNat_natCast,BU e1,jy (n:=(b[j.1].toNat:Int)) (by omega),aiH _ _ e2 e3,<-Oy _ _ _ e1,zy (show j.1<=100000 by omega),go_sem]
  refine ⟨⟨by omega,by omega⟩,hB _ ⟨j.1+1,e1⟩ (by simp only;omega) (Wk.mk [] [] rfl rfl (by simp only [go_sem]) (by simp only [go_sem]) (by simp only [rv,go_sem]))⟩
 ·have e1:j.1=b.length:=by have:=j.2;simp only [decide_eq_false_iff_not] at h1;omega
  simp only [e1,List.take_length]
  exact Fin.gD _ rfl rfl rfl rfl
theorem aiN (b:List UInt8) (hl:b.length<=10000):Fn Tryz.prog 36 [dJ b] [] (I (pG b:Nat)) [] []:=by
 refine Fn.jT Jl (by simp) ?_
 unfold zw SC.mk'
 have hm:1+b.length<=maxLen:=Nat.le_trans (show 1+b.length<=10001 by omega) (by decide)
 have e0:[[AV.v (.int .u8 90)]]++bG b=bG (90::b):=rfl
 simp only [List.take_succ_cons,List.take_zero,e0,go_sem]
 by_cases h0:1+b.length<=1
 ·obtain rfl:b=[]:=List.eq_nil_of_length_eq_zero (by omega)
  simp only [List.length_nil,Nat.add_zero,Nat.le_refl,if_true,go_sem]
  refine BQ (OH [90] (by simp)) (by simp [aN,rv,get,bG]) rfl rfl ?_
  simp only [go_sem]
  exact Fin.gD _ rfl rfl rfl rfl
 simp only [h0,if_false,go_sem]
 refine ⟨⟨by omega,hm⟩,?_⟩
 refine BQ (OH (90::b) (by simp;omega)) (by simp [aN,rv,get,iD];exact ⟨by omega,(List.take_of_length_le (by simp [iD];omega)).symm⟩) rfl rfl ?_
 simp only [go_sem]
 exact Fin.gD _ rfl rfl rfl rfl
theorem OI (h:Nat) (hh:h<4294967296) (b:List UInt8) (hl:b.length<=100000):Fn Tryz.prog 207 [.v (.int .u32 h),dJ b] [] (.v (.int .u32 (jA h b:Nat))) [] []:=by
 refine Fn.jT Jd (by simp) ?_
 unfold zh SC.mk'
 simp only [go_sem]
 refine go_loop (fun j:{j:Nat // j<=b.length}=>⟨1000,[(0,.v (.int .u32 (jA h (b.take j.1):Nat))),(7,dJ b),(8,I b.length),(9,I j.1)],[]⟩) (fun j=>b.length - j.1) ⟨0,by omega⟩
  (Wk.mk [] [] rfl rfl (by simp only [go_sem]) (by simp only [go_sem]) (by simp only [rv,jA,List.take_zero,go_sem];try rfl)) ?_
 intro j B hB
 simp only [go_sem]
 refine mE (fun h1=> ?_) (fun h1=> ?_)<;>simp only [h1,go_sem]
 ·have e1:j.1<b.length:=by simp only [decide_eq_true_eq] at h1;omega
  have e2:=BS (b.take j.1) h hh
  have e3:b[j.1].toNat<256:=b[j.1].toNat_lt
  have e4:IntKind.u32.wrap (b[j.1].toNat:Int)=(b[j.1].toNat:Int):=by rw [IntKind.wrap_u32];omega
  simp only [Int.toNat_natCast,BU e1,e4,aiI _ _ e2 e3,<-Oy _ _ _ e1,zy (show j.1<=100000 by omega),go_sem]
  refine ⟨⟨by omega,by omega⟩,hB _ ⟨j.1+1,e1⟩ (by simp only;omega) (Wk.mk [] [] rfl rfl (by simp only [go_sem]) (by simp only [go_sem]) (by simp only [rv,go_sem]))⟩
 ·have e1:j.1=b.length:=by have:=j.2;simp only [decide_eq_false_iff_not] at h1;omega
  simp only [e1,List.take_length,go_sem]
  exact Fin.gD _ rfl rfl rfl rfl
theorem aiO (b:List UInt8) (hl:b.length<=10000):Fn Tryz.prog 139 [dJ b] [] (I (pG b:Nat)) [] []:=by
 refine Fn.jT Je (by simp) ?_
 unfold zi SC.mk'
 have e0:[[AV.v (.int .u8 90)]]=bG [90]:=rfl
 have e1:IntKind.i64.wrap (pG b:Nat)=(pG b:Nat):=jy (by have:=Jr b;omega)
 simp only [e0,go_sem]
 refine BQ (OI 2166136261 (by decide) [90] (by simp)) (by simp [aN,rv,get,iD];rfl) rfl rfl ?_
 simp only [go_sem]
 refine jU (OI (jA 2166136261 [90]) (BS _ _ (by decide)) b (by omega)) rfl rfl ?_
 have e2:jA (jA 2166136261 [90]) b=pG b:=rfl
 simp only [e1,e2,go_sem]
 exact Fin.gD _ rfl rfl rfl rfl
end Go.Eng
namespace Go.Eng
open Go Go.Proofs
attribute [local go_sem] Int.cast_ofNat_Int Int.reduceBEq Int.reduceLT Int.reduceLE Int.reduceSub Int.reduceAdd Int.reduceNeg Int.reduceEq Int.reduceToNat decide_true decide_false decide_eq_true_eq beq_self_eq_true bne_self_eq_false List.reduceReplicate List.length_set List.length_replicate List.length_cons List.length_nil List.set_cons_zero List.set_cons_succ Int.toNat_natCast
def encR (h:Hd):AV:=if h.ok then .aT [dJ (rf h),I 0] else .aT [Nl,I 1]
def hd1 (id:Nat):List UInt8:=[113]++jB id 4
def hd2 (id gen:Nat):List UInt8:=hd1 id++jB gen 3
def hd3 (id gen route:Nat):List UInt8:=hd2 id gen++jB route 2
theorem zF (id:Nat):(hd1 id).length=5:=by simp [hd1,pI]
theorem zG (id gen:Nat):(hd2 id gen).length=8:=by simp [hd2,zF,pI]
theorem OJ (id gen route:Nat):(hd3 id gen route).length=10:=by simp [hd3,zG,pI]
theorem OM (h:Hd):(jW h).length=12:=by simp [jW,pI]
theorem rq {b:List UInt8} {k:Nat} (h:b.length=k):(bG b).take k=bG b:=List.take_of_length_le (by rw [iD];omega)
theorem zI (b:List UInt8):∀ o ∈ [Ob.row 5 1 (bG b)],sO o:=by
 simp [sO,nS,bG]
 intro x _
 rfl
theorem aiP (b:List UInt8) (x:Nat) (hx:x<256):bG b++[[.v (.int .u8 (x:Int))],[.v (.int .u8 0)]]=bG (b++[x.toUInt8,0]):=by
 have h:((x.toUInt8.toNat:Nat):Int)=x:=by rw [OB];omega
 have h':(B8 x.toUInt8:AV)= .v (.int .u8 (x:Int)):=by rw [B8,h]
 simp only [bG,List.map_append,List.map_cons,List.map_nil,h'];rfl
theorem aiQ (h:Hd):Fn Tryz.prog 21 [.agg h.enc] [] (encR h) [] []:=by
 refine Fn.jT Jm (by simp) ?_
 unfold zx SC.mk' encR Hd.enc
 by_cases hk:h.ok
 ·rw [if_pos hk]
  obtain ⟨⟨a1,a2⟩,⟨a3,a4⟩,⟨a5,a6⟩,⟨a7,a8⟩⟩:=hk
  obtain ⟨id,gen,route,hint⟩:=h
  simp only at a1 a2 a3 a4 a5 a6 a7 a8
  obtain ⟨id,rfl⟩:=Int.eq_ofNat_of_zero_le (show 0<=id by omega)
  obtain ⟨gen,rfl⟩:=Int.eq_ofNat_of_zero_le (show 0<=gen by omega)
  obtain ⟨route,rfl⟩:=Int.eq_ofNat_of_zero_le (show 0<=route by omega)
  obtain ⟨hint,rfl⟩:=Int.eq_ofNat_of_zero_le (show 0<=hint by omega)
  have c1:decide ((id:Int)<1)=false:=by rw [decide_eq_false_iff_not];omega
  have c2:decide (1073741824<(id:Int))=false:=by rw [decide_eq_false_iff_not];omega
  have c3:decide ((gen:Int)<1)=false:=by rw [decide_eq_false_iff_not];omega
  have c4:decide (65536<(gen:Int))=false:=by rw [decide_eq_false_iff_not];omega
  have c5:decide ((route:Int)<0)=false:=by rw [decide_eq_false_iff_not];omega
  have c6:decide (65536<=(route:Int))=false:=by rw [decide_eq_false_iff_not];omega
  have c7:decide ((hint:Int)<0)=false:=by rw [decide_eq_false_iff_not];omega
  have c8:decide (6<=(hint:Int))=false:=by rw [decide_eq_false_iff_not];omega
  simp only [c1,c2,c3,c4,c5,c6,c7,c8,go_sem]
  have e0:[[AV.v (.int .u8 113)]]=bG [113]:=rfl
  simp only [e0]
  have r1:[113]++jB id 4=hd1 id:=rfl
  have r2:hd1 id++jB gen 3=hd2 id gen:=rfl
  have r3:hd2 id gen++jB route 2=hd3 id gen route:=rfl
  refine yY (Ew [113] id 4 (by simp) (by omega) (by omega)) (by simp [aN,rv,get,iD];rfl) rfl (zI _) (by simp) rfl rfl ?_
  simp only [r1,fC,sh,go_sem]
  refine yY (Ew (hd1 id) gen 3 (by simp [zF]) (by omega) (by omega)) (by simp [aN,rv,get,iD,zF,rq (zF id)]) rfl (zI _) (by simp) rfl (by simp [dX,kQ,zF];rfl) ?_
  simp only [r2,fC,sh,zF,go_sem]
  refine yY (Ew (hd2 id gen) route 2 (by simp [zG]) (by omega) (by omega)) (by simp [aN,rv,get,iD,zG,rq (zG id gen)]) rfl (zI _) (by simp) rfl (by simp [dX,kQ,zG];rfl) ?_
  simp only [r3,fC,sh,zG,go_sem]
  have e8:IntKind.u8.wrap (hint:Int)=(hint:Int):=by rw [IntKind.wrap_u8];omega
  have r4:bG (hd3 id gen route)++[[.v (.int .u8 (hint:Int))],[.v (.int .u8 0)]]=bG (jW ⟨id,gen,route,hint⟩):=aiP _ hint (by omega)
  simp only [rq (OJ id gen route),iD,OJ,e8,List.take_succ_cons,List.take_zero,r4,go_sem]
  have hl:=OM ⟨id,gen,route,hint⟩
  have ht:rf ⟨id,gen,route,hint⟩=jW ⟨id,gen,route,hint⟩++jB (pG (jW ⟨id,gen,route,hint⟩)) 4:=rfl
  rw [ht]
  have hc:=Jr (jW ⟨id,gen,route,hint⟩)
  generalize jW ⟨id,gen,route,hint⟩=hb at hl hc ⊢
  refine ⟨by decide,?_⟩
  refine BQ (aiN hb (by omega)) (by simp [aN,rv,get,iD,hl,rq hl]) rfl rfl ?_
  simp only [go_sem]
  refine yY (Ew hb (pG hb) 4 (by omega) (by omega) (by omega)) (by simp [aN,rv,get,iD,hl,rq hl]) rfl (zI _) (by simp) rfl (by simp [dX,kQ,hl];rfl) ?_
  simp only [fC,sh,hl,go_sem]
  exact Fin.aK _ rfl rfl (by simp [lF,rv,aN,get,iD,pI,hl];exact (rq (by simp [pI,hl])).symm)
 ·rw [if_neg hk]
  simp only [go_sem]
  repeat' first
   |(exfalso;simp only [decide_eq_false_iff_not] at*;exact hk ⟨⟨by omega,by omega⟩,⟨by omega,by omega⟩,⟨by omega,by omega⟩,⟨by omega,by omega⟩⟩)
   |(refine IK (fun h1=> ?_) (fun h1=> ?_)<;>simp only [h1,go_sem])
   |(refine mE (fun h1=> ?_) (fun h1=> ?_)<;>simp only [h1,go_sem])
   |exact Fin.gD _ rfl rfl rfl rfl
end Go.Eng
namespace Go.Eng
open Go Go.Proofs
attribute [local go_sem] Int.cast_ofNat_Int Int.reduceBEq Int.reduceLT Int.reduceLE Int.reduceSub Int.reduceAdd Int.reduceNeg Int.reduceEq Int.reduceToNat decide_true decide_false decide_eq_true_eq beq_self_eq_true bne_self_eq_false List.reduceReplicate List.length_set List.length_replicate List.length_cons List.length_nil List.set_cons_zero List.set_cons_succ Int.toNat_natCast
def hN (id gen route hint:Nat):Nat->Nat
 |0=>id
 |1=>gen
 |2=>route
 |3=>hint
 |_=>0
def hS:Nat->Nat
 |0=>4
 |1=>3
 |2=>2
 |_=>1
def hP (id gen route hint:Nat):Nat->List UInt8
 |0=>[113]
 |j+1=>hP id gen route hint j++jB (hN id gen route hint j) (hS j)
theorem OO (id gen route hint:Nat):∀ j,(hP id gen route hint j).length<=1+4*j
 |0=>by simp [hP]
 |j+1=>by
  have:=OO id gen route hint j
  have:hS j<=4:=by unfold hS;split<;>omega
  simp [hP,pI];omega
theorem hP5 (id gen route hint:Nat):hP id gen route hint 5=jW ⟨id,gen,route,hint⟩:=by
 simp [hP,hN,hS,jW,jB,be]
theorem aiS (h:Hd):Fn Tryz.prog 85 [.agg h.enc] [] (encR h) [] []:=by
 refine Fn.jT Jf (by simp) ?_
 unfold zk SC.mk' encR Hd.enc
 by_cases hk:h.ok
 ·rw [if_pos hk]
  obtain ⟨⟨a1,a2⟩,⟨a3,a4⟩,⟨a5,a6⟩,⟨a7,a8⟩⟩:=hk
  obtain ⟨id,gen,route,hint⟩:=h
  simp only at a1 a2 a3 a4 a5 a6 a7 a8
  obtain ⟨id,rfl⟩:=Int.eq_ofNat_of_zero_le (show 0<=id by omega)
  obtain ⟨gen,rfl⟩:=Int.eq_ofNat_of_zero_le (show 0<=gen by omega)
  obtain ⟨route,rfl⟩:=Int.eq_ofNat_of_zero_le (show 0<=route by omega)
  obtain ⟨hint,rfl⟩:=Int.eq_ofNat_of_zero_le (show 0<=hint by omega)
  have c1:jf (id:Int) 1 1073741824=true:=by simp [jf];omega
  have c2:jf (gen:Int) 1 65536=true:=by simp [jf];omega
  have c3:jf (route:Int) 0 65535=true:=by simp [jf];omega
  have c4:jf (hint:Int) 0 5=true:=by simp [jf];omega
  simp only [go_sem]
  refine jU (BV _ _ _) rfl rfl ?_;simp only [c1,go_sem]
  refine jU (BV _ _ _) rfl rfl ?_;simp only [c2,go_sem]
  refine jU (BV _ _ _) rfl rfl ?_;simp only [c3,go_sem]
  refine jU (BV _ _ _) rfl rfl ?_;simp only [c4,go_sem]
  have e0:[[AV.v (.int .u8 113)]]=bG [113]:=rfl
  simp only [e0]
  refine go_loop (fun j:{j:Nat // j<=5}=>⟨1000,[(4,.own 208 1 0 (hP id gen route hint j.1).length),(43,.agg [I id,I 4,I gen,I 3,I route,I 2,I hint,I 1,I 0,I 1]),(44,I j.1)],[(208,.row 5 1 (bG (hP id gen route hint j.1)))]⟩) (fun j=>5 - j.1) ⟨0,by omega⟩
   (Wk.mk [(208,208)] [] rfl rfl (by simp only [gX,cO,aN,rv,hP,go_sem]) (by simp only [go_sem]) (by simp only [rv,hP,go_sem]<;>simp)) ?_
  intro j B hB
  obtain ⟨j,hj⟩:=j
  simp only [go_sem]
  refine mE (fun h2=> ?_) (fun h2=> ?_)<;>simp only [h2,go_sem]
  ·have e7:j<5:=by simp only [decide_eq_true_eq] at h2;omega
   have hn:hN id gen route hint j<2 ^ (8*hS j):=by
    rcases (show j=0\/j=1\/j=2\/j=3\/j=4 by omega) with rfl|rfl|rfl|rfl|rfl<;>simp [hN,hS]<;>omega
   have hs:1<=hS j/\hS j<=4:=by rcases (show j=0\/j=1\/j=2\/j=3\/j=4 by omega) with rfl|rfl|rfl|rfl|rfl<;>simp [hS]
   have hpl:=OO id gen route hint j
   have e10:IntKind.i64.wrap ((j:Int)+1)=((j+1:Nat):Int):=zy (by omega)
   have e11:List.take 2 (List.drop (j*2) [I id,I 4,I gen,I 3,I route,I 2,I hint,I 1,I 0,I 1])=[I (hN id gen route hint j:Nat),I (hS j:Nat)]:=by
    rcases (show j=0\/j=1\/j=2\/j=3\/j=4 by omega) with rfl|rfl|rfl|rfl|rfl<;>rfl
   simp only [Int.toNat_natCast,e10,e11,qj,go_sem]
   refine ⟨⟨by omega,by omega,by omega⟩,?_⟩
   refine yY (OG (hP id gen route hint j) (hN id gen route hint j) (hS j) (by omega) hs hn) (by simp [aN,rv,get,iD,rq rfl]) rfl (zI _) (by simp) rfl rfl ?_
   simp only [fC,sh,e10,go_sem]
   refine hB _ ⟨j+1,e7⟩ (by simp only;omega) (Wk.mk [(208,1072)] [] rfl rfl (by simp only [gX,cO,aN,rv,hP,go_sem]) (by simp only [go_sem]) (by simp only [rv,hP,List.length_append,pI,go_sem]))
  ·have e7:j=5:=by simp only [decide_eq_false_iff_not] at h2;omega
   subst e7
   have hl:=OM ⟨id,gen,route,hint⟩
   have ht:rf ⟨id,gen,route,hint⟩=jW ⟨id,gen,route,hint⟩++jB (pG (jW ⟨id,gen,route,hint⟩)) 4:=rfl
   rw [ht]
   have hc:=Jr (jW ⟨id,gen,route,hint⟩)
   simp only [hP5,go_sem]
   generalize jW ⟨id,gen,route,hint⟩=hb at hl hc ⊢
   refine BQ (aiO hb (by omega)) (by simp [aN,rv,get,iD,hl,rq hl]) rfl rfl ?_
   simp only [go_sem]
   refine yY (OG hb (pG hb) 4 (by omega) (by omega) (by omega)) (by simp [aN,rv,get,iD,hl,rq hl]) rfl (zI _) (by simp) rfl (by simp [dX,kQ,hl];rfl) ?_
   simp only [fC,sh,hl,go_sem]
   exact Fin.aK _ rfl rfl (by simp [lF,rv,aN,get,iD,pI,hl];exact (rq (by simp [pI,hl])).symm)
 ·rw [if_neg hk]
  simp only [go_sem]
  repeat' first
   |(exfalso;simp only [Bool.not_eq_false',jf,Bool.and_eq_true,decide_eq_true_eq] at*;exact hk ⟨⟨by omega,by omega⟩,⟨by omega,by omega⟩,⟨by omega,by omega⟩,⟨by omega,by omega⟩⟩)
   |(refine IK (fun h1=> ?_) (fun h1=> ?_)<;>simp only [h1,go_sem])
   |(refine mE (fun h1=> ?_) (fun h1=> ?_)<;>simp only [h1,go_sem])
   |(refine jU (BV _ _ _) rfl rfl ?_;simp only [go_sem])
   |exact Fin.gD _ rfl rfl rfl rfl
end Go.Eng
namespace Go.Eng
open Go Go.Proofs
attribute [local go_sem] Int.cast_ofNat_Int Int.reduceBEq Int.reduceLT Int.reduceLE Int.reduceSub Int.reduceAdd Int.reduceNeg Int.reduceEq Int.reduceToNat decide_true decide_false decide_eq_true_eq beq_self_eq_true bne_self_eq_false List.reduceReplicate List.length_set List.length_replicate List.length_cons List.length_nil List.set_cons_zero List.set_cons_succ Int.toNat_natCast
theorem OP (g x:Nat) (hg:g<2 ^ 48) (hx:x<256):bits .or .i64 (IntKind.i64.wrap ((g:Int)*2 ^ 8)) (x:Int)=((g*256+x:Nat):Int):=by
 have e:((g:Int)*2 ^ 8)=((g*256:Nat):Int):=by simp
 rw [e,jy (by omega)]
 rw [bits_join .i64 63 (by decide) Eu 8 _ _ (by omega) (by omega) (by omega) (by omega) (by omega) (by omega)]
 simp
theorem OQ (b:List UInt8) (a j:Nat) (hj:j<=6):gN b a j<2 ^ 48:=by
 have h1:=OA b a j
 have h2:256 ^ j<=256 ^ 6:=Nat.pow_le_pow_right (by decide) hj
 have h3:(256:Nat) ^ 6=2 ^ 48:=by decide
 omega
theorem Ey (b:List UInt8) (a s:Nat) (hb:b.length<=1000) (hs:1<=s/\s<=6) (ha:a+s<=b.length):Fn Tryz.prog 20 [dJ b,I a,I s] [] (.aT [I (gN b a s:Nat),I 0]) [] []:=by
 refine Fn.jT Ji (by simp) ?_
 unfold s20 SC.mk'
 have c1:decide ((s:Int)<1)=false:=by rw [decide_eq_false_iff_not];omega
 have c2:decide (6<(s:Int))=false:=by rw [decide_eq_false_iff_not];omega
 have c3:decide ((a:Int)<0)=false:=by rw [decide_eq_false_iff_not];omega
 have c4:decide ((b.length:Int)<(a:Int))=false:=by rw [decide_eq_false_iff_not];omega
 have c5:IntKind.i64.wrap ((b.length:Int) - (a:Int))=(b.length:Int) - (a:Int):=jy (by omega)
 have c6:decide ((b.length:Int) - (a:Int)<(s:Int))=false:=by rw [decide_eq_false_iff_not];omega
 simp only [c1,c2,c3,c4,c5,c6,go_sem]
 refine go_loop (fun j:{j:Nat // j<=s}=>⟨1000,[(0,dJ b),(1,I a),(2,I s),(8,I (gN b a j.1:Nat)),(9,I j.1)],[]⟩) (fun j=>s - j.1) ⟨0,by omega⟩
  (Wk.mk [] [] rfl rfl (by simp only [go_sem]) (by simp only [go_sem]) (by simp only [rv,gN,go_sem]<;>exact ⟨rfl,rfl⟩)) ?_
 intro j B hB
 obtain ⟨j,hj⟩:=j
 simp only [go_sem]
 refine mE (fun h1=> ?_) (fun h1=> ?_)<;>simp only [h1,go_sem]
 ·have e1:j<s:=by simp only [decide_eq_true_eq] at h1;omega
  have e2:IntKind.i64.wrap ((a:Int)+(j:Int))=((a+j:Nat):Int):=by rw [jy (by omega)];omega
  have e3:=Js b (a+j)
  have e4:IntKind.i64.wrap ((mH b (a+j):Nat):Int)=((mH b (a+j):Nat):Int):=jy (by omega)
  have e5:=OQ b a j (by omega)
  have e6:gN b a j*256+mH b (a+j)=gN b a (j+1):=rfl
  simp only [Int.toNat_natCast,e2,OC (show a+j<b.length by omega),e4,Nat.reduceLeDiff,Nat.min_eq_left (show 8<=64 by decide),go_sem]
  simp only [OP _ _ e5 e3,e6,zy (show j<=100000 by omega),go_sem]
  refine ⟨⟨by omega,by omega⟩,hB _ ⟨j+1,e1⟩ (by simp only;omega) (Wk.mk [] [] rfl rfl (by simp only [go_sem]) (by simp only [go_sem]) (by simp only [rv,go_sem]))⟩
 ·have e1:j=s:=by simp only [decide_eq_false_iff_not] at h1;omega
  subst e1
  exact Fin.gD _ rfl rfl rfl rfl
theorem aiT (b:List UInt8):uq (bG b)=some b:=by
 induction b with
 |nil=>rfl
 |cons x b ih=>
  have e:bG (x::b)=[.v (.int .u8 (x.toNat:Int))]::bG b:=rfl
  rw [e]
  simp only [uq,ih,Int.toNat_natCast]
  simp
theorem ba_eq (a b:List UInt8):((⟨a.toArray⟩:ByteArray).toList==(⟨b.toArray⟩:ByteArray).toList)=decide (a=b):=by
 rw [ByteArray.toList_eq,ByteArray.toList_eq]
 by_cases h:a=b
 ·simp [h]
 ·simp [h]
theorem aiU (a b:List UInt8):Fn Tryz.prog 22 [dJ a,dJ b] [] (Bo (decide (a=b))) [] []:=by
 refine Fn.jT Jj (by simp) ?_
 unfold zq SC.mk'
 simp only [aiT,go_sem]
 refine Fin.gD _ rfl rfl rfl ?_
 simp only [lF,ba_eq]
theorem aiV (x y:UInt8):((x.toNat:Int) !=(y.toNat:Int))= !decide (x=y):=by
 by_cases h:x=y
 ·simp [h]
 ·have:x.toNat≠y.toNat:=fun e=>h (UInt8.toNat_inj.1 e)
  simp [h];omega
theorem aiW (a b:List UInt8) (ha:a.length<=10000) (hb:b.length<=10000):Fn Tryz.prog 86 [dJ a,dJ b] [] (Bo (decide (a=b))) [] []:=by
 refine Fn.jT Jg (by simp) ?_
 unfold zn SC.mk'
 simp only [go_sem]
 refine mE (fun h1=> ?_) (fun h1=> ?_)<;>simp only [h1,go_sem]
 ·have e1:a≠b:=by intro e;subst e;simp at h1
  simp only [e1,decide_false]
  exact Fin.gD _ rfl rfl rfl rfl
 have e0:a.length=b.length:=by simp at h1;omega
 refine go_loop (fun j:{j:Nat // j<=a.length/\∀ k,k<j->a[k]? =b[k]?}=>⟨1000,[(0,dJ a),(1,dJ b),(12,I a.length),(13,I j.1)],[]⟩) (fun j=>a.length - j.1) ⟨0,by omega,fun k hk=>absurd hk (by omega)⟩
  (Wk.mk [] [] rfl rfl (by simp only [go_sem]) (by simp only [go_sem]) (by simp only [rv,go_sem]<;>simp)) ?_
 intro j B hB
 obtain ⟨j,hj,hk⟩:=j
 simp only [go_sem]
 refine mE (fun h2=> ?_) (fun h2=> ?_)<;>simp only [h2,go_sem]
 ·have e1:j<a.length:=by simp only [decide_eq_true_eq] at h2;omega
  have e2:j<b.length:=by omega
  simp only [Int.toNat_natCast,BU e1,BU e2,aiV,go_sem]
  refine ⟨⟨by omega,by omega⟩,⟨by omega,by omega⟩,rfl,?_⟩
  refine mE (fun h3=> ?_) (fun h3=> ?_)<;>simp only [h3,go_sem]
  ·have e3:a≠b:=by intro e;subst e;simp at h3
   simp only [e3,decide_false]
   exact Fin.gD _ rfl rfl rfl rfl
  ·have e3:a[j]=b[j]:=by simpa using h3
   simp only [zy (show j<=100000 by omega),go_sem]
   exact hB _ ⟨j+1,e1,fun k hk'=>by
    by_cases h:k<j
    ·exact hk k h
    ·have:k=j:=by omega
     subst this
     rw [List.getElem?_eq_getElem e1,List.getElem?_eq_getElem e2,e3]⟩ (by simp only;omega) (Wk.mk [] [] rfl rfl (by simp only [go_sem]) (by simp only [go_sem]) (by simp only [rv,go_sem]))
 ·have e1:j=a.length:=by simp only [decide_eq_false_iff_not] at h2;omega
  have e2:a=b:=List.ext_getElem? fun k=>by
   by_cases h:k<j
   ·exact hk k h
   ·rw [List.getElem?_eq_none (by omega),List.getElem?_eq_none (by omega)]
  simp only [e2,decide_true]
  exact Fin.gD _ rfl rfl rfl rfl
theorem Ez (b:List UInt8) (a s:Nat) (hb:b.length<=1000) (hs:1<=s/\s<=6) (ha:a+s<=b.length):Fn Tryz.prog 84 [dJ b,I a,I s] [] (.aT [I (gN b a s:Nat),I 0]) [] []:=by
 refine Fn.jT Jc (by simp) ?_
 unfold zf SC.mk'
 have c1:decide ((s:Int)<1)=false:=by rw [decide_eq_false_iff_not];omega
 have c2:decide (6<(s:Int))=false:=by rw [decide_eq_false_iff_not];omega
 have c3:decide ((a:Int)<0)=false:=by rw [decide_eq_false_iff_not];omega
 have c4:decide ((b.length:Int)<(a:Int))=false:=by rw [decide_eq_false_iff_not];omega
 have c5:IntKind.i64.wrap ((b.length:Int) - (a:Int))=(b.length:Int) - (a:Int):=jy (by omega)
 have c6:decide ((b.length:Int) - (a:Int)<(s:Int))=false:=by rw [decide_eq_false_iff_not];omega
 have c7:IntKind.i64.wrap ((a:Int)+(s:Int))=((a+s:Nat):Int):=by rw [jy (by omega)];omega
 have c8:a+s - a=s:=by omega
 simp only [c1,c2,c3,c4,c5,c6,c7,Int.toNat_natCast,aiK,OD,iD,go_sem]
 refine ⟨⟨by omega,by omega,by omega⟩,?_⟩
 have hl:(List.drop a (List.take (a+s) b)).length=s:=by rw [List.length_drop,List.length_take];omega
 have hn:∀ k,k<s->mH (List.drop a (List.take (a+s) b)) k=mH b (a+k):=fun k hk=>by
  simp only [mH,List.getElem?_drop,List.getElem?_take,if_pos (show a+k<a+s by omega)]
 generalize List.drop a (List.take (a+s) b)=bs at hl hn ⊢
 simp only [hl]
 refine go_loop (fun j:{j:Nat // j<=s}=>⟨1000,[(8,I (gN b a j.1:Nat)),(38,dJ bs),(39,I s),(40,I j.1)],[]⟩) (fun j=>s - j.1) ⟨0,by omega⟩
  (Wk.mk [] [] rfl rfl (by simp only [go_sem]) (by simp only [go_sem]) (by simp only [rv,gN,go_sem]<;>exact ⟨rfl,rfl⟩)) ?_
 intro j B hB
 obtain ⟨j,hj⟩:=j
 simp only [go_sem]
 refine mE (fun h1=> ?_) (fun h1=> ?_)<;>simp only [h1,go_sem]
 ·have e1:j<s:=by simp only [decide_eq_true_eq] at h1;omega
  have e3:=Js b (a+j)
  have e4:IntKind.i64.wrap ((mH b (a+j):Nat):Int)=((mH b (a+j):Nat):Int):=jy (by omega)
  have e5:=OQ b a j (by omega)
  have e6:gN b a j*256+mH b (a+j)=gN b a (j+1):=rfl
  simp only [Int.toNat_natCast,OC (show j<bs.length by omega),hn j e1,e4,Nat.reduceLeDiff,Nat.min_eq_left (show 8<=64 by decide),go_sem]
  simp only [OP _ _ e5 e3,e6,zy (show j<=100000 by omega),go_sem]
  refine ⟨⟨by omega,by omega⟩,hB _ ⟨j+1,e1⟩ (by simp only;omega) (Wk.mk [] [] rfl rfl (by simp only [go_sem]) (by simp only [go_sem]) (by simp only [rv,go_sem]))⟩
 ·have e1:j=s:=by simp only [decide_eq_false_iff_not] at h1;omega
  subst e1
  exact Fin.gD _ rfl rfl rfl rfl
end Go.Eng
namespace Go.Eng
open Go Go.Proofs
attribute [local go_sem] Int.cast_ofNat_Int Int.reduceBEq Int.reduceLT Int.reduceLE Int.reduceSub Int.reduceAdd Int.reduceNeg Int.reduceEq Int.reduceToNat decide_true decide_false decide_eq_true_eq beq_self_eq_true bne_self_eq_false List.reduceReplicate List.length_set List.length_replicate List.length_cons List.length_nil List.set_cons_zero List.set_cons_succ Int.toNat_natCast
def ru (b:List UInt8):AV:=match parse b with
 |some h=> .aT [.agg h.enc,I 0]
 |none=> .aT [.agg zH.enc,I 8]
theorem zJ {b:List UInt8} (h:parse b=none):ru b= .aT [.agg zH.enc,I 8]:=by unfold ru;rw [h]
theorem OT {b:List UInt8} {x:Hd} (h:parse b=some x):ru b= .aT [.agg x.enc,I 0]:=by unfold ru;rw [h]
theorem b10:((1:Int) !=0)=true:=rfl
theorem OU {p:Prop} [Decidable p] (h:¬ p):decide p=false:=by simp [h]
theorem fn8 (b:List UInt8):Fn Tryz.prog 8 [dJ b] [] (ru b) [] []:=by
 refine Fn.jT BP (by simp) ?_
 unfold s8 SC.mk'
 simp only [go_sem]
 by_cases h1:b.length=16
 ·have e1:((b.length:Int) !=16)=false:=by simp [h1]
  simp only [e1,go_sem]
  refine jU (Ey b 1 4 (by omega) (by omega) (by omega)) rfl rfl ?_;simp only [go_sem]
  refine jU (Ey b 5 3 (by omega) (by omega) (by omega)) rfl rfl ?_;simp only [go_sem]
  refine jU (Ey b 8 2 (by omega) (by omega) (by omega)) rfl rfl ?_;simp only [go_sem]
  refine jU (Ey b 10 1 (by omega) (by omega) (by omega)) rfl rfl ?_;simp only [go_sem]
  have hF:=aiQ (jg b)
  unfold encR at hF
  by_cases hk:(jg b).ok
  ·rw [if_pos hk] at hF
   refine jU hF rfl rfl ?_;simp only [go_sem]
   have hq:(jg b).id=gN b 1 4/\(jg b).gen=gN b 5 3/\(jg b).route=gN b 8 2/\(jg b).hint=gN b 10 1:=⟨rfl,rfl,rfl,rfl⟩
   refine jU (aiU (rf (jg b)) b) rfl rfl ?_;simp only [go_sem]
   by_cases ht:rf (jg b)=b
   ·have hp:parse b=some (jg b):=by unfold parse;rw [if_pos ⟨h1,hk,ht⟩]
    rw [OT hp]
    simp only [ht,go_sem]
    exact Fin.gD _ rfl rfl rfl rfl
   ·have hp:parse b=none:=by unfold parse;rw [if_neg (fun h=>ht h.2.2)]
    rw [zJ hp]
    simp only [OU ht,go_sem]
    exact Fin.gD _ rfl rfl rfl rfl
  ·rw [if_neg hk] at hF
   refine jU hF rfl rfl ?_;simp only [go_sem]
   have hp:parse b=none:=by unfold parse;rw [if_neg (fun h=>hk h.2.1)]
   rw [zJ hp]
   simp only [b10,go_sem]
   exact Fin.gD _ rfl rfl rfl rfl
 ·have e1:((b.length:Int) !=16)=true:=by simp;omega
  have hp:parse b=none:=by unfold parse;rw [if_neg (fun h=>h1 h.1)]
  rw [zJ hp]
  simp only [e1,go_sem]
  exact Fin.gD _ rfl rfl rfl rfl
def pA:Nat->Nat
 |0=>1
 |1=>5
 |2=>8
 |3=>10
 |_=>11
def pB (b:List UInt8) (j:Nat):List AV:=[I (if 0<j then gN b 1 4 else 0:Nat),I (if 1<j then gN b 5 3 else 0:Nat),I (if 2<j then gN b 8 2 else 0:Nat),I (if 3<j then gN b 10 1 else 0:Nat)]
theorem aiY (b:List UInt8):Fn Tryz.prog 59 [dJ b] [] (ru b) [] []:=by
 refine Fn.jT BO (by simp) ?_
 unfold zm SC.mk'
 simp only [go_sem]
 by_cases h1:b.length=16
 ·have e1:((b.length:Int) !=16)=false:=by simp [h1]
  simp only [e1,go_sem]
  refine go_loop (fun j:{j:Nat // j<=4}=>⟨1000,[(0,dJ b),(2,.ptr 8 0),(4,.ptr 48 0),(5,I (pA j.1:Nat)),(22,.agg [.ptr 48 0,I 4,.ptr 48 1,I 3,.ptr 48 2,I 2,.ptr 48 3,I 1]),(23,I j.1)],[(8,.box [I 0,I 0,I 0,I 0]),(48,.box (pB b j.1))]⟩) (fun j=>4 - j.1) ⟨0,by omega⟩
   (Wk.mk [(8,8),(48,48)] [] rfl rfl (by simp only [gX,cO,aN,rv,pB,pA,go_sem]<;>exact ⟨rfl,rfl,rfl,rfl⟩) (by simp only [go_sem]) (by simp only [rv,aN,pA,go_sem]<;>exact ⟨rfl,rfl⟩)) ?_
  intro j B hB
  obtain ⟨j,hj⟩:=j
  simp only [go_sem]
  refine mE (fun h2=> ?_) (fun h2=> ?_)<;>simp only [h2,go_sem]
  ·have e7:j<4:=by simp only [decide_eq_true_eq] at h2;omega
   rcases (show j=0\/j=1\/j=2\/j=3 by omega) with rfl|rfl|rfl|rfl
   ·simp only [pB,pA,go_sem]
    refine Ef (Ez b 1 4 (by omega) (by omega) (by omega)) rfl rfl ?_
    simp only [go_sem]
    exact ⟨rfl,hB _ ⟨1,by omega⟩ (by simp only;omega) (Wk.mk [(8,8),(48,48)] [] rfl rfl (by simp only [gX,cO,aN,rv,pB,pA,go_sem]) (by simp only [go_sem]) (by simp only [rv,aN,pA,go_sem]<;>exact ⟨rfl,rfl⟩))⟩
   ·simp only [pB,pA,go_sem]
    refine Ef (Ez b 5 3 (by omega) (by omega) (by omega)) rfl rfl ?_
    simp only [go_sem]
    exact ⟨rfl,hB _ ⟨2,by omega⟩ (by simp only;omega) (Wk.mk [(8,8),(48,48)] [] rfl rfl (by simp only [gX,cO,aN,rv,pB,pA,go_sem]) (by simp only [go_sem]) (by simp only [rv,aN,pA,go_sem]<;>exact ⟨rfl,rfl⟩))⟩
   ·simp only [pB,pA,go_sem]
    refine Ef (Ez b 8 2 (by omega) (by omega) (by omega)) rfl rfl ?_
    simp only [go_sem]
    exact ⟨rfl,hB _ ⟨3,by omega⟩ (by simp only;omega) (Wk.mk [(8,8),(48,48)] [] rfl rfl (by simp only [gX,cO,aN,rv,pB,pA,go_sem]) (by simp only [go_sem]) (by simp only [rv,aN,pA,go_sem]<;>exact ⟨rfl,rfl⟩))⟩
   ·simp only [pB,pA,go_sem]
    refine Ef (Ez b 10 1 (by omega) (by omega) (by omega)) rfl rfl ?_
    simp only [go_sem]
    exact ⟨rfl,hB _ ⟨4,by omega⟩ (by simp only;omega) (Wk.mk [(8,8),(48,48)] [] rfl rfl (by simp only [gX,cO,aN,rv,pB,pA,go_sem]) (by simp only [go_sem]) (by simp only [rv,aN,pA,go_sem]<;>exact ⟨rfl,rfl⟩))⟩
  ·have e7:j=4:=by simp only [decide_eq_false_iff_not] at h2;omega
   subst e7
   have hz:pB b 4=[I (gN b 1 4:Nat),I (gN b 5 3:Nat),I (gN b 8 2:Nat),I (gN b 10 1:Nat)]:=rfl
   have hF:=aiS (jg b)
   unfold encR at hF
   simp only [hz,go_sem]
   by_cases hk:(jg b).ok
   ·rw [if_pos hk] at hF
    refine jU hF rfl rfl ?_;simp only [go_sem]
    have hl:=aiJ (jg b)
    refine jU (aiW (rf (jg b)) b (by omega) (by omega)) rfl rfl ?_;simp only [go_sem]
    by_cases ht:rf (jg b)=b
    ·have hp:parse b=some (jg b):=by unfold parse;rw [if_pos ⟨h1,hk,ht⟩]
     rw [OT hp]
     simp only [ht,go_sem]
     exact Fin.gD _ rfl rfl rfl rfl
    ·have hp:parse b=none:=by unfold parse;rw [if_neg (fun h=>ht h.2.2)]
     rw [zJ hp]
     simp only [OU ht,go_sem]
     exact Fin.gD _ rfl rfl rfl rfl
   ·rw [if_neg hk] at hF
    refine jU hF rfl rfl ?_;simp only [go_sem]
    have hp:parse b=none:=by unfold parse;rw [if_neg (fun h=>hk h.2.1)]
    rw [zJ hp]
    simp only [b10,go_sem]
    exact Fin.gD _ rfl rfl rfl rfl
 ·have e1:((b.length:Int) !=16)=true:=by simp;omega
  have hp:parse b=none:=by unfold parse;rw [if_neg (fun h=>h1 h.1)]
  rw [zJ hp]
  simp only [e1,go_sem]
  exact Fin.gD _ rfl rfl rfl rfl
end Go.Eng
