/-
  Part of a proof: lemmas and definitions of this work.
  No condition.
-/
import Derived.Test.YthhjbngoibmpgaaGreatH04
import Derived.Test.YthhjbngoibmpgaaGreatH07
set_option linter.all false
set_option maxRecDepth 100000
set_option maxHeartbeats 8000000
namespace Go.Eng
open Go
theorem jX {a b:Prop} (x:a) (y:b):a/\b:=⟨x,y⟩
section
variable {P:Program} {f:FuncId} {xs ys:List AV} {r:AV} {h:List (Nat×Ob)} {nm:Nat} {k:List It} {Q:Exit->St->Prop} {n n':Nat} {t:List (Nat×AV)} {d:Option Nat} {l ops:List av} {acc:List aW}
theorem sC (hk:go P (.ops (nm+8) n' l::k) Q n (aV t d r) h) (hF:Fn P f xs [] r [] []:=by assumption) (hp:bf xs=true:=by rfl) (hr:r.pure=true:=by rfl):lQ P nm f xs d n' l k Q n t h:=aS hF hp hr hk
theorem sD (hk:go P (.bC (nm+8) n' l ops (([],[])::acc)::k) Q n (aV t d r) h) (hF:Fn P f xs [] r [] []:=by assumption) (hp:bf xs=true:=by rfl) (hr:r.pure=true:=by rfl):qw P nm f xs d n' l ops acc k Q n t h:=dV hF hp hr hk
theorem sZ (hk:go P (.ops (nm+8) n' l::k) Q n (aV t d r) (kills (bX ys)++h)) (hF:Fn P f xs [] r [] []:=by assumption) (ha:au h [] [] xs ys:=by ((try simp only [au,rv,hJ,go_sem])<;>(try simp [encI,rv,au,get])<;>rfl)) (hz:lU h (bX ys)=true:=by rfl) (hp:bf xs=true:=by rfl) (hr:r.pure=true:=by rfl):lQ P nm f ys d n' l k Q n t h:=zV hF ha hz hp hr hk
theorem sY (hk:go P (.bC (nm+8) n' l ops ((bX ys,(kills (bX ys)).map Prod.fst)::acc)::k) Q n (aV t d r) (kills (bX ys)++h)) (hF:Fn P f xs [] r [] []:=by assumption) (ha:au h [] [] xs ys:=by ((try simp only [au,rv,hJ,go_sem])<;>(try simp [encI,rv,au,get])<;>rfl)) (hz:lU h (bX ys)=true:=by rfl) (hp:bf xs=true:=by rfl) (hr:r.pure=true:=by rfl):qw P nm f ys d n' l ops acc k Q n t h:=DJ hF ha hz hp hr hk
theorem sF {B:List Nat} (hk:go P k Q n (oN h [] t) (nO h B)) (hB:d9 [] h=B:=by simp only [go_sem];rfl) (hn:xh n B=true:=by rfl) (hp:ve h B/\qD h [] t:=by (simp only [go_sem]<;>first|trivial|omega|(simp<;>omega))):qB P k Q n t h:=DU hB hn hp hk
theorem sM {res:List gY} {r:AV} {t:List (Nat×AV)} {xs:List AV} (h3:rv h [] [] r (aD xs)) (h1:gZ t h res=some xs:=by rfl) (h2:fw h [] [] []=true:=by rfl):Fin res r [] [] t h:=Fin.bA xs h1 h2 h3
end
theorem bn {A B:Prop} (k:B) (h:A:=by first|exact ⟨by omega,by omega⟩|rfl|omega|exact ⟨by omega,by omega,by omega⟩):A/\B:=⟨h,k⟩
theorem wk {s s':St} (S:List (Nat×Nat)) (N:List Nat) (hS:fw s.h S N s'.h=true:=by rfl) (hn:(S.map Prod.fst++N).all (fun k=>decide (k<s'.n))=true:=by rfl)
 (hH:bq s.h S N s'.h S:=by (simp only [bq,aR,au,rv,go_sem]<;>try simp)) (hN:gG s'.h N:=by (simp only [gG,go_sem]<;>try simp [encI])) (hT:bQ s.h S N s.t s'.t:=by (simp only [bQ,rv,au,go_sem]<;>try simp)):Wk s s':=Wk.mk S N hS hn hH hN hT
theorem fz {G:Prop} (h:G:=by (subst hR;first|rfl|simp_all [rv,au,get,ah.enter,ai.enc,ah.enc,Task.enc,Ev.enc,bL.enc,aC.enc,dx.enc,Dead.enc,Dir.enc,aj.enc,Walk.enc,bI.enc,aG.enc,-Int.not_lt,-Int.not_le]<;>try rfl)):G:=h
theorem aX {G:Prop} (h:G:=by
 repeat' first
  |(first|refine sC ?_|refine sD ?_|refine sZ ?_|refine sY ?_|refine sF ?_);simp only [go_sem]
  |(first|refine dQ (fun hq=> ?_) (fun hq=> ?_)|refine jE (fun hq=> ?_) (fun hq=> ?_)|refine je (fun hq=> ?_) (fun hq=> ?_))<;>simp only [hq,go_sem]
  |refine sM ?_;simp only [aD,rv,au,get,go_sem]
  |refine bn ?_
  |fail
 all_goals ((try clear eY);(try clear jg);(try clear sU);(try clear sV);(try clear sW);(try clear xX);(try clear hgo);(try clear hrl);(try clear hel);(try clear hpl);(try clear htk);(try clear hdc);(try clear hse);(try clear hho);(try clear hsp);(try clear hst);(try clear hre);(try clear hro))
 all_goals first|rfl|((try subst hR);first|rfl|(simp_all [rv,au,get,aD,ai.enc,ah.enc,Task.enc,Ev.enc,bL.enc,aC.enc,dx.enc,Dead.enc,Dir.enc,aj.enc,Walk.enc,bI.enc,aG.enc,-Int.not_lt,-Int.not_le]<;>rfl)|(simp_all [rv,au,get,aD,ai.enc,ah.enc,Task.enc,Ev.enc,bL.enc,aC.enc,dx.enc,Dead.enc,Dir.enc,aj.enc,Walk.enc,bI.enc,aG.enc,ah.enter,Task.qL,jY.enc,fV,Task.ev,encI,eB.enc,ah.bg,Setup.enc,bF.enc,ak.enc,kT.enc,-Int.not_lt,-Int.not_le]<;>rfl))):G:=h
theorem aZ {G:Prop} (h:G:=by
 repeat' first
  |(first|refine sC ?_|refine sD ?_|refine sZ ?_|refine sY ?_|refine sZ ?_ eY|refine sY ?_ eY|refine sZ ?_ jg|refine sY ?_ jg|refine sZ ?_ sU|refine sY ?_ sU|refine sZ ?_ sV|refine sY ?_ sV|refine sZ ?_ sW|refine sY ?_ sW|refine sF ?_);simp only [hJ,go_sem]
  |(first|refine dQ (fun hq=> ?_) (fun hq=> ?_)|refine jE (fun hq=> ?_) (fun hq=> ?_)|refine je (fun hq=> ?_) (fun hq=> ?_))<;>simp only [hq,hJ,go_sem]
  |refine sM ?_;simp only [aD,rv,au,get,hJ,go_sem]
  |refine bn ?_
  |fail
 all_goals ((try clear hJ);(try clear eY);(try clear jg);(try clear sU);(try clear sV);(try clear sW);(try clear xX);(try clear hgo);(try clear hrl);(try clear hel);(try clear hpl);(try clear htk);(try clear hdc);(try clear hse);(try clear hho);(try clear hsp);(try clear hst);(try clear hre);(try clear hro))
 all_goals first|rfl|((try subst hR);first|rfl|(simp_all [rv,au,get,aD,ai.enc,ah.enc,Task.enc,Ev.enc,bL.enc,aC.enc,dx.enc,Dead.enc,Dir.enc,aj.enc,Walk.enc,bI.enc,aG.enc,-Int.not_lt,-Int.not_le]<;>rfl)|(simp_all [rv,au,get,aD,ai.enc,ah.enc,Task.enc,Ev.enc,bL.enc,aC.enc,dx.enc,Dead.enc,Dir.enc,aj.enc,Walk.enc,bI.enc,aG.enc,ah.enter,Task.qL,jY.enc,fV,Task.ev,encI,eB.enc,ah.bg,Setup.enc,bF.enc,ak.enc,kT.enc,-Int.not_lt,-Int.not_le]<;>rfl))):G:=h
end Go.Eng
namespace Go.Eng
open Go
abbrev I (n:Int):AV:= .v (.int .i64 n)
abbrev B8 (b:UInt8):AV:= .v (.int .u8 b.toNat)
abbrev Bo (b:Bool):AV:= .v (.bool b)
abbrev Nl:AV:= .v (.slice none 0 0)
abbrev Z:AV:= .v (.int .i64 0)
def encI (l:List Int):List (List AV):=l.map fun z=>[I z]
def encS (l:List ByteArray):List (List AV):=l.map fun z=>[.v (.string z)]
def qM (b:List UInt8):List (List AV):=b.map fun x=>[B8 x]
abbrev Oc (b:List UInt8):AV:= .sl 1 (qM b)
def tq (l:List (List UInt8)):List (List AV):=l.map fun b=>[Oc b]
theorem cu {n:Int} (h: -9223372036854775808<=n/\n<=9223372036854775807):IntKind.i64.wrap n=n:=by
 rw [IntKind.wrap_i64];omega
structure ak where
 id:Int
 route:Int
 epoch:Int
 count:Int
 gen:Int
 sent:Int
 body:ByteArray
def ak.enc (x:ak):List AV:=[I x.id,I x.route,I x.epoch,I x.count,I x.gen,I x.sent,.v (.string x.body)]
abbrev ak.z:ak:=⟨0,0,0,0,0,0,⟨#[]⟩⟩
theorem ak.dJ (x:ak):x.enc.length=7:=rfl
@[go_sem] theorem ak.eF (x:ak):dh x.enc=[]:=rfl
structure Ring where
 cells:List ak
 head:Int
 size:Int
def Ring.enc (x:Ring):List AV:=[.sl 7 (x.cells.map ak.enc),I x.head,I x.size]
abbrev Ring.z:Ring:=⟨[],0,0⟩
theorem Ring.dJ (x:Ring):x.enc.length=3:=rfl
@[go_sem] theorem Ring.eF (x:Ring):dh x.enc=[]:=rfl
structure Due where
 dl:Int
 id:Int
def Due.enc (x:Due):List AV:=[I x.dl,I x.id]
abbrev Due.z:Due:=⟨0,0⟩
theorem Due.dJ (x:Due):x.enc.length=2:=rfl
@[go_sem] theorem Due.eF (x:Due):dh x.enc=[]:=rfl
structure Lease where
 msg:ak
 dl:Int
def Lease.enc (x:Lease):List AV:=[I x.msg.id,I x.msg.route,I x.msg.epoch,I x.msg.count,I x.msg.gen,I x.msg.sent,.v (.string x.msg.body),I x.dl]
abbrev Lease.z:Lease:=⟨ak.z,0⟩
theorem Lease.dJ (x:Lease):x.enc.length=8:=rfl
@[go_sem] theorem Lease.eF (x:Lease):dh x.enc=[]:=rfl
structure Table where
 l:List Lease
 heap:List Due
def Table.enc (x:Table):List AV:=[.sl 8 (x.l.map Lease.enc),.sl 2 (x.heap.map Due.enc)]
abbrev Table.z:Table:=⟨[],[]⟩
theorem Table.dJ (x:Table):x.enc.length=2:=rfl
@[go_sem] theorem Table.eF (x:Table):dh x.enc=[]:=rfl
structure aj where
 live:Bool
 low:Int
 high:Int
 ready:Ring
 aL:Table
def aj.enc (x:aj):List AV:=[Bo x.live,I x.low,I x.high,.sl 7 (x.ready.cells.map ak.enc),I x.ready.head,I x.ready.size,.sl 8 (x.aL.l.map Lease.enc),.sl 2 (x.aL.heap.map Due.enc)]
abbrev aj.z:aj:=⟨false,0,0,Ring.z,Table.z⟩
theorem aj.dJ (x:aj):x.enc.length=8:=rfl
@[go_sem] theorem aj.eF (x:aj):dh x.enc=[]:=rfl
structure Dead where
 cap:Int
 l:List ak
def Dead.enc (x:Dead):List AV:=[I x.cap,.sl 7 (x.l.map ak.enc)]
abbrev Dead.z:Dead:=⟨0,[]⟩
theorem Dead.dJ (x:Dead):x.enc.length=2:=rfl
@[go_sem] theorem Dead.eF (x:Dead):dh x.enc=[]:=rfl
structure Hd where
 id:Int
 gen:Int
 route:Int
 hint:Int
def Hd.enc (x:Hd):List AV:=[I x.id,I x.gen,I x.route,I x.hint]
abbrev Hd.z:Hd:=⟨0,0,0,0⟩
theorem Hd.dJ (x:Hd):x.enc.length=4:=rfl
@[go_sem] theorem Hd.eF (x:Hd):dh x.enc=[]:=rfl
structure Span where
 low:Int
 high:Int
 bM:Int
def Span.enc (x:Span):List AV:=[I x.low,I x.high,I x.bM]
abbrev Span.z:Span:=⟨0,0,0⟩
theorem Span.dJ (x:Span):x.enc.length=3:=rfl
@[go_sem] theorem Span.eF (x:Span):dh x.enc=[]:=rfl
structure Dir where
 version:Int
 l:List Span
 aM:List Int
def Dir.enc (x:Dir):List AV:=[I x.version,.sl 3 (x.l.map Span.enc),.sl 1 (encI x.aM)]
abbrev Dir.z:Dir:=⟨0,[],[]⟩
theorem Dir.dJ (x:Dir):x.enc.length=3:=rfl
@[go_sem] theorem Dir.eF (x:Dir):dh x.enc=[]:=rfl
structure eB where
 kind:Int
 dR:Int
 to:Int
 mid:Int
def eB.enc (x:eB):List AV:=[I x.kind,I x.dR,I x.to,I x.mid]
abbrev eB.z:eB:=⟨0,0,0,0⟩
theorem eB.dJ (x:eB):x.enc.length=4:=rfl
@[go_sem] theorem eB.eF (x:eB):dh x.enc=[]:=rfl
structure aG where
 seq:Int
 epoch:Int
 ready:Int
 dH:Int
def aG.enc (x:aG):List AV:=[I x.seq,I x.epoch,I x.ready,I x.dH]
abbrev aG.z:aG:=⟨0,0,0,0⟩
theorem aG.dJ (x:aG):x.enc.length=4:=rfl
@[go_sem] theorem aG.eF (x:aG):dh x.enc=[]:=rfl
structure Slot where
 owner:Int
 bM:aj
def Slot.enc (x:Slot):List AV:=[I x.owner,Bo x.bM.live,I x.bM.low,I x.bM.high,.sl 7 (x.bM.ready.cells.map ak.enc),I x.bM.ready.head,I x.bM.ready.size,.sl 8 (x.bM.aL.l.map Lease.enc),.sl 2 (x.bM.aL.heap.map Due.enc)]
abbrev Slot.z:Slot:=⟨0,aj.z⟩
theorem Slot.dJ (x:Slot):x.enc.length=9:=rfl
@[go_sem] theorem Slot.eF (x:Slot):dh x.enc=[]:=rfl
structure ni where
 owner:Int
 dead:Dead
def ni.enc (x:ni):List AV:=[I x.owner,I x.dead.cap,.sl 7 (x.dead.l.map ak.enc)]
abbrev ni.z:ni:=⟨0,Dead.z⟩
theorem ni.dJ (x:ni):x.enc.length=3:=rfl
@[go_sem] theorem ni.eF (x:ni):dh x.enc=[]:=rfl
structure ai where
 slots:List Slot
 aH:List aG
 dead:ni
 dir:Dir
 epoch:Int
 clock:Int
 fI:Int
def ai.enc (x:ai):List AV:=[.sl 9 (x.slots.map Slot.enc),.sl 4 (x.aH.map aG.enc),I x.dead.owner,I x.dead.dead.cap,.sl 7 (x.dead.dead.l.map ak.enc),I x.dir.version,.sl 3 (x.dir.l.map Span.enc),.sl 1 (encI x.dir.aM),I x.epoch,I x.clock,I x.fI]
abbrev ai.z:ai:=⟨[],[],ni.z,Dir.z,0,0,0⟩
theorem ai.dJ (x:ai):x.enc.length=11:=rfl
@[go_sem] theorem ai.eF (x:ai):dh x.enc=[]:=rfl
structure Setup where
 slots:Int
 live:Int
 capacity:Int
 dead:Int
 limit:Int
 clock:Int
 fI:Int
 epoch:Int
def Setup.enc (x:Setup):List AV:=[I x.slots,I x.live,I x.capacity,I x.dead,I x.limit,I x.clock,I x.fI,I x.epoch]
abbrev Setup.z:Setup:=⟨0,0,0,0,0,0,0,0⟩
theorem Setup.dJ (x:Setup):x.enc.length=8:=rfl
@[go_sem] theorem Setup.eF (x:Setup):dh x.enc=[]:=rfl
structure aC where
 cells:List Int
 phase:Int
 got:Int
 tries:Int
 wait:Int
def aC.enc (x:aC):List AV:=[.sl 1 (encI x.cells),I x.phase,I x.got,I x.tries,I x.wait]
abbrev aC.z:aC:=⟨[],0,0,0,0⟩
theorem aC.dJ (x:aC):x.enc.length=5:=rfl
@[go_sem] theorem aC.eF (x:aC):dh x.enc=[]:=rfl
structure dx where
 phase:Int
 epoch:Int
 clock:Int
 stamp:Int
def dx.enc (x:dx):List AV:=[I x.phase,I x.epoch,I x.clock,I x.stamp]
abbrev dx.z:dx:=⟨0,0,0,0⟩
theorem dx.dJ (x:dx):x.enc.length=4:=rfl
@[go_sem] theorem dx.eF (x:dx):dh x.enc=[]:=rfl
structure bL where
 aA:List aj
 dead:Dead
 order:List Int
 carry:List ak
 dF:List eB
def bL.enc (x:bL):List AV:=[.sl 8 (x.aA.map aj.enc),I x.dead.cap,.sl 7 (x.dead.l.map ak.enc),.sl 1 (encI x.order),.sl 7 (x.carry.map ak.enc),.sl 4 (x.dF.map eB.enc)]
abbrev bL.z:bL:=⟨[],Dead.z,[],[],[]⟩
theorem bL.dJ (x:bL):x.enc.length=6:=rfl
@[go_sem] theorem bL.eF (x:bL):dh x.enc=[]:=rfl
structure ah where
 phase:Int
 at_:Int
 lock:aC
 aO:dx
 aA:List aj
 dead:Dead
 aH:List aG
 dir:Dir
 out:bL
 limit:Int
 carry:List ak
def ah.enc (x:ah):List AV:=[I x.phase,I x.at_,.sl 1 (encI x.lock.cells),I x.lock.phase,I x.lock.got,I x.lock.tries,I x.lock.wait,I x.aO.phase,I x.aO.epoch,I x.aO.clock,I x.aO.stamp,.sl 8 (x.aA.map aj.enc),I x.dead.cap,.sl 7 (x.dead.l.map ak.enc),.sl 4 (x.aH.map aG.enc),I x.dir.version,.sl 3 (x.dir.l.map Span.enc),.sl 1 (encI x.dir.aM),.sl 8 (x.out.aA.map aj.enc),I x.out.dead.cap,.sl 7 (x.out.dead.l.map ak.enc),.sl 1 (encI x.out.order),.sl 7 (x.out.carry.map ak.enc),.sl 4 (x.out.dF.map eB.enc),I x.limit,.sl 7 (x.carry.map ak.enc)]
abbrev ah.z:ah:=⟨0,0,aC.z,dx.z,[],Dead.z,[],Dir.z,bL.z,0,[]⟩
theorem ah.dJ (x:ah):x.enc.length=26:=rfl
@[go_sem] theorem ah.eF (x:ah):dh x.enc=[]:=rfl
structure Walk where
 next:Int
 covered:Int
def Walk.enc (x:Walk):List AV:=[I x.next,I x.covered]
abbrev Walk.z:Walk:=⟨0,0⟩
theorem Walk.dJ (x:Walk):x.enc.length=2:=rfl
@[go_sem] theorem Walk.eF (x:Walk):dh x.enc=[]:=rfl
structure fM where
 kind:Int
 home:Int
 max_:Int
 eP:Int
 dR:Int
 to:Int
 bodies:List ByteArray
 tokens:List (List UInt8)
def fM.enc (x:fM):List AV:=[I x.kind,I x.home,I x.max_,I x.eP,I x.dR,I x.to,.sl 1 (encS x.bodies),.sl 1 (tq x.tokens)]
abbrev fM.z:fM:=⟨0,0,0,0,0,0,[],[]⟩
theorem fM.dJ (x:fM):x.enc.length=8:=rfl
@[go_sem] theorem fM.eF (x:fM):dh x.enc=[]:=rfl
structure bI where
 err:Int
 id:Int
 tokens:List (List UInt8)
 bodies:List ByteArray
 ready:Int
 dH:Int
 moved:Int
def bI.enc (x:bI):List AV:=[I x.err,I x.id,.sl 1 (tq x.tokens),.sl 1 (encS x.bodies),I x.ready,I x.dH,I x.moved]
abbrev bI.z:bI:=⟨0,0,[],[],0,0,0⟩
theorem bI.dJ (x:bI):x.enc.length=7:=rfl
@[go_sem] theorem bI.eF (x:bI):dh x.enc=[]:=rfl
structure jY where
 id:Int
 gen:Int
 route:Int
 dl:Int
def jY.enc (x:jY):List AV:=[I x.id,I x.gen,I x.route,I x.dl]
abbrev jY.z:jY:=⟨0,0,0,0⟩
theorem jY.dJ (x:jY):x.enc.length=4:=rfl
@[go_sem] theorem jY.eF (x:jY):dh x.enc=[]:=rfl
structure Ev where
 stamp:Int
 task:Int
 entry:Int
 kind:Int
 now:Int
 epoch:Int
 err:Int
 l:List jY
 ready:Int
 dH:Int
def Ev.enc (x:Ev):List AV:=[I x.stamp,I x.task,I x.entry,I x.kind,I x.now,I x.epoch,I x.err,.sl 4 (x.l.map jY.enc),I x.ready,I x.dH]
abbrev Ev.z:Ev:=⟨0,0,0,0,0,0,0,[],0,0⟩
theorem Ev.dJ (x:Ev):x.enc.length=10:=rfl
@[go_sem] theorem Ev.eF (x:Ev):dh x.enc=[]:=rfl
structure Task where
 number:Int
 inv:fM
 invoked:Int
 dn:Bool
 ended:Int
 pc:Int
 entry:Int
 results:List bI
 setup:Setup
 sec:ah
 dir:Dir
 walk:Walk
 slot:Int
 id:Int
 hnd:Hd
 loaded:Int
 first:List aG
 second:List aG
def Task.enc (x:Task):List AV:=[I x.number,I x.inv.kind,I x.inv.home,I x.inv.max_,I x.inv.eP,I x.inv.dR,I x.inv.to,.sl 1 (encS x.inv.bodies),.sl 1 (tq x.inv.tokens),I x.invoked,Bo x.dn,I x.ended,I x.pc,I x.entry,.sl 7 (x.results.map bI.enc),I x.setup.slots,I x.setup.live,I x.setup.capacity,I x.setup.dead,I x.setup.limit,I x.setup.clock,I x.setup.fI,I x.setup.epoch,I x.sec.phase,I x.sec.at_,.sl 1 (encI x.sec.lock.cells),I x.sec.lock.phase,I x.sec.lock.got,I x.sec.lock.tries,I x.sec.lock.wait,I x.sec.aO.phase,I x.sec.aO.epoch,I x.sec.aO.clock,I x.sec.aO.stamp,.sl 8 (x.sec.aA.map aj.enc),I x.sec.dead.cap,.sl 7 (x.sec.dead.l.map ak.enc),.sl 4 (x.sec.aH.map aG.enc),I x.sec.dir.version,.sl 3 (x.sec.dir.l.map Span.enc),.sl 1 (encI x.sec.dir.aM),.sl 8 (x.sec.out.aA.map aj.enc),I x.sec.out.dead.cap,.sl 7 (x.sec.out.dead.l.map ak.enc),.sl 1 (encI x.sec.out.order),.sl 7 (x.sec.out.carry.map ak.enc),.sl 4 (x.sec.out.dF.map eB.enc),I x.sec.limit,.sl 7 (x.sec.carry.map ak.enc),I x.dir.version,.sl 3 (x.dir.l.map Span.enc),.sl 1 (encI x.dir.aM),I x.walk.next,I x.walk.covered,I x.slot,I x.id,I x.hnd.id,I x.hnd.gen,I x.hnd.route,I x.hnd.hint,I x.loaded,.sl 4 (x.first.map aG.enc),.sl 4 (x.second.map aG.enc)]
abbrev Task.z:Task:=⟨0,fM.z,0,false,0,0,0,[],Setup.z,ah.z,Dir.z,Walk.z,0,0,Hd.z,0,[],[]⟩
theorem Task.dJ (x:Task):x.enc.length=63:=rfl
@[go_sem] theorem Task.eF (x:Task):dh x.enc=[]:=rfl
structure bF where
 setup:Setup
 arena:ai
 tasks:List Task
 log:List Ev
 steps:Int
 handles:List (List UInt8)
def bF.enc (x:bF):List AV:=[I x.setup.slots,I x.setup.live,I x.setup.capacity,I x.setup.dead,I x.setup.limit,I x.setup.clock,I x.setup.fI,I x.setup.epoch,.sl 9 (x.arena.slots.map Slot.enc),.sl 4 (x.arena.aH.map aG.enc),I x.arena.dead.owner,I x.arena.dead.dead.cap,.sl 7 (x.arena.dead.dead.l.map ak.enc),I x.arena.dir.version,.sl 3 (x.arena.dir.l.map Span.enc),.sl 1 (encI x.arena.dir.aM),I x.arena.epoch,I x.arena.clock,I x.arena.fI,.sl 63 (x.tasks.map Task.enc),.sl 10 (x.log.map Ev.enc),I x.steps,.sl 1 (tq x.handles)]
abbrev bF.z:bF:=⟨Setup.z,ai.z,[],[],0,[]⟩
theorem bF.dJ (x:bF):x.enc.length=23:=rfl
@[go_sem] theorem bF.eF (x:bF):dh x.enc=[]:=rfl
structure nW where
 index:Int
 variant:Int
 raw:List UInt8
def nW.enc (x:nW):List AV:=[I x.index,I x.variant,Oc x.raw]
abbrev nW.z:nW:=⟨0,0,[]⟩
theorem nW.dJ (x:nW):x.enc.length=3:=rfl
@[go_sem] theorem nW.eF (x:nW):dh x.enc=[]:=rfl
structure kT where
 kind:Int
 pick:Int
 bW:Int
 inv:fM
 refs:List nW
def kT.enc (x:kT):List AV:=[I x.kind,I x.pick,I x.bW,I x.inv.kind,I x.inv.home,I x.inv.max_,I x.inv.eP,I x.inv.dR,I x.inv.to,.sl 1 (encS x.inv.bodies),.sl 1 (tq x.inv.tokens),.sl 3 (x.refs.map nW.enc)]
abbrev kT.z:kT:=⟨0,0,0,fM.z,[]⟩
theorem kT.dJ (x:kT):x.enc.length=12:=rfl
@[go_sem] theorem kT.eF (x:kT):dh x.enc=[]:=rfl
theorem aY (l:List Int):(encI l).length=l.length:=by simp [encI]
theorem qN (l:List ByteArray):(encS l).length=l.length:=by simp [encS]
theorem Od (l:List UInt8):(qM l).length=l.length:=by simp [qM]
theorem oW (l:List (List UInt8)):(tq l).length=l.length:=by simp [tq]
attribute [go_sem] aY qN Od oW List.length_map
theorem fJ {α:Type} (f:α->List AV) (d:α) {l:List α} {k:Nat} (h:k<l.length):nth (l.map f) k=f (l[k]?.getD d):=by
 simp [nth,h]
theorem AY {l:List Int} {k:Nat} (h:k<l.length):nth (encI l) k=[I (l[k]?.getD 0)]:=by simp [nth,encI,h]
theorem fZ {α:Type} (d:α) {l:List α} {i:Nat} (h:i<l.length):l.drop i=l[i]?.getD d::l.drop (i+1):=by
 rw [List.drop_eq_getElem_cons h,List.getElem?_eq_getElem h];rfl
theorem iY {α:Type} {l:List α} {i:Nat} (h:l.length<=i):l.drop i=[]:=List.drop_eq_nil_of_le h
theorem eZ {α:Type} {l:List α} {i:Nat} (h:l.length<=i):l.take i=l:=List.take_of_length_le h
theorem ZJ (n:Nat):(n+1<=n)=False:=by simp
attribute [go_sem] ZJ kJ
attribute [go_sem] reduceIte Nat.reduceAdd Nat.reduceMul Nat.reduceSub Nat.reduceEqDiff Nat.reduceLeDiff Nat.reduceLT reduceCtorEq Nat.succ_eq_add_one
attribute [go_sem] cond_true cond_false Bool.false_or Bool.or_false Nat.reduceBEq Nat.reduceBeqDiff
theorem ZK (n:Int):(n !=n)=false:=by simp
end Go.Eng
namespace Go.Eng
open Go Go.Proofs
theorem ZL {l:List Int} {k:Nat} (h:k<l.length):nth (encI l) k=[I l[k]]:=by simp [encI,nth,h]
theorem ZM (l:List Int) (k:Nat):(encI l).take k=encI (l.take k):=by simp [encI,List.map_take]
theorem cZ {p:Nat} (h:p<=100000):IntKind.i64.wrap ((p:Int)+1)=((p+1:Nat):Int):=by rw [cu (by omega)];omega
theorem ZN {p:Nat} (h:p<=100000):IntKind.i64.wrap (((p+1:Nat):Int) - 1)=(p:Int):=by rw [cu (by omega)];omega
attribute [go_sem] aY
abbrev jh (l:List Int) (a:Nat):List AV:=[.sl 1 (encI l),I a]
def kU (l:List Int) (a:Nat):Int:=l[a]?.getD 0
def AZ (l:List Int) (a:Nat):Nat:=if a<l.length then a+1 else a
theorem ZO {l:List Int} {a:Nat} (h:a<l.length):kU l a=l[a]:=by simp [kU,h]
theorem ZP (l:List Int) (a:Nat) (hl:l.length<=4000):Fn Tryz.prog 70 [.ptr 0 0] [jh l a] (I (kU l a)) [jh l (AZ l a)] []:=by
 refine Fn.aB Zh (by simp) ?_
 unfold EL SC.mk'
 simp only [go_sem]
 refine ⟨rfl,dQ (fun h1=> ?_) (fun h1=> ?_)⟩<;>simp only [h1,go_sem]
 ·have e1:¬ a<l.length:=by simp only [decide_eq_true_eq] at h1;omega
  refine Fin.bH _ rfl rfl rfl rfl rfl ?_ ?_
  ·simp only [AZ,e1,go_sem]
  ·simp only [kU,List.getElem?_eq_none (show l.length<=a by omega),aD];rfl
 ·have e1:a<l.length:=by simp only [decide_eq_false_iff_not] at h1;omega
  simp only [cZ (show a<=100000 by omega),ZN (show a<=100000 by omega),Int.toNat_natCast,ZL e1,go_sem]
  refine ⟨⟨by omega,by omega⟩,rfl,?_⟩
  refine Fin.bH _ rfl rfl rfl rfl rfl ?_ ?_
  ·simp only [AZ,e1,go_sem]
  ·simp only [ZO e1,aD]
theorem Gx {x n:Int} (h:0<n): -n<x.tmod n/\x.tmod n<n:=by
 have h1:=Int.tmod_lt_of_pos x h
 have h2:=Int.lt_tmod_of_pos x h
 exact ⟨h2,h1⟩
def nV (l:List Int) (a:Nat) (n:Int):Int:=if n<1 then 0 else if (kU l a).tmod n<0 then (kU l a).tmod n+n else (kU l a).tmod n
def nN (l:List Int) (a:Nat) (n:Int):Nat:=if n<1 then a else AZ l a
theorem l9 (l:List Int) (a:Nat) (n:Int):0<=nV l a n:=by
 unfold nV
 split
 ·omega
 ·have ht:=Gx (x:=kU l a) (show 0<n by omega)
  split<;>omega
theorem nk (l:List Int) (a:Nat) {n:Int} (h:1<=n):nV l a n<n:=by
 unfold nV
 rw [if_neg (by omega)]
 have ht:=Gx (x:=kU l a) (show 0<n by omega)
 split<;>omega
theorem ZQ (l:List Int) (a:Nat) {n m:Int} (h:n<=m+1) (h0:0<=m):nV l a n<=m:=by
 by_cases h1:1<=n
 ·have:=nk l a h1;omega
 ·unfold nV;rw [if_pos (by omega)];exact h0
theorem nu (l:List Int) (a:Nat) (n:Int) (hl:l.length<=4000) (hn:n<=1000000):
 Fn Tryz.prog 24 [.ptr 0 0,I n] [jh l a] (I (nV l a n)) [jh l (nN l a n)] []:=by
 refine Fn.aB Zd (by simp) ?_
 unfold s24 SC.mk'
 simp only [go_sem]
 refine dQ (fun h1=> ?_) (fun h1=> ?_)
 ·have e:n<1:=by simpa using h1
  unfold nV nN
  simp only [if_pos e,h1,go_sem]
  exact Fin.bH _ rfl rfl rfl rfl rfl rfl rfl
 ·have e:¬ n<1:=by simpa using h1
  simp only [h1,go_sem]
  refine dG (b:=0) (ZP l a hl) ⟨rfl,trivial⟩ rfl rfl rfl rfl ?_
  have ht:=Gx (x:=kU l a) (show 0<n by omega)
  simp only [go_sem]
  refine ⟨by omega,dQ (fun h2=> ?_) (fun h2=> ?_)⟩
  ·have e2:(kU l a).tmod n<0:=by simpa using h2
   unfold nV nN
   simp only [if_neg e,if_pos e2,h2,cu (n:=(kU l a).tmod n+n) (by omega),go_sem]
   exact Fin.bH _ rfl rfl rfl rfl rfl rfl rfl
  ·have e2:¬ (kU l a).tmod n<0:=by simpa using h2
   unfold nV nN
   simp only [if_neg e,if_neg e2,h2,go_sem]
   exact Fin.bH _ rfl rfl rfl rfl rfl rfl rfl
def iq (l:List Int) (a:Nat) (lo hi:Int):Int:=lo+nV l a (hi - lo+1)
def jq (l:List Int) (a:Nat) (lo hi:Int):Nat:=nN l a (hi - lo+1)
theorem vD (l:List Int) (a:Nat) (lo hi:Int):lo<=iq l a lo hi:=by have:=l9 l a (hi - lo+1);unfold iq;omega
theorem vE (l:List Int) (a:Nat) {lo hi:Int} (h:lo<=hi):iq l a lo hi<=hi:=by have:=nk l a (n:=hi - lo+1) (by omega);unfold iq;omega
theorem xY (l:List Int) (a:Nat) (lo hi:Int) (hl:l.length<=4000) (h1: -100000<=lo/\lo<=100000) (h2: -100000<=hi/\hi<=100000):
 Fn Tryz.prog 16 [.ptr 0 0,I lo,I hi] [jh l a] (I (iq l a lo hi)) [jh l (jq l a lo hi)] []:=by
 refine Fn.aB ok16 (by simp) ?_
 unfold s16 SC.mk'
 simp only [cu (n:=hi - lo) (by omega),cu (n:=hi - lo+1) (by omega),go_sem]
 refine dG (b:=0) (nu l a (hi - lo+1) hl (by omega)) ⟨rfl,⟨rfl,rfl⟩,trivial⟩ rfl rfl rfl rfl ?_
 have h3:=l9 l a (hi - lo+1)
 have h4:=ZQ l a (n:=hi - lo+1) (m:=300000) (by omega) (by omega)
 simp only [cu (n:=lo+nV l a (hi - lo+1)) (by omega),go_sem]
 exact Fin.bH _ rfl rfl rfl rfl rfl rfl rfl
theorem ZR (l:List Int):Fn Tryz.prog 11 [.sl 1 (encI l)] [] (.ptr 4 0) [] [.box (jh (l.take 4000) 0)]:=by
 refine Fn.aB Y8 (by simp) ?_
 unfold s11 SC.mk'
 simp only [go_sem]
 refine dQ (fun h1=> ?_) (fun h1=> ?_)
 ·have e:(4000:Int)<l.length:=by simpa using h1
  have e2:List.drop ((0:Nat):Int).toNat (List.take (Int.toNat 4000) (encI l))=encI (l.take 4000):=by rw [ZM];rfl
  simp only [h1,e2,go_sem]
  refine ⟨⟨by omega,by omega,by omega⟩,⟨[(4,80)],[],_,rfl,rfl,?_,?_,?_⟩⟩
  ·simp only [bq,outs,dM,bS,List.map_nil,List.nil_append,aR,au,rv,jh,go_sem]
   trivial
  ·simp only [gG]
  ·simp only [aD,rv,go_sem]
 ·have e:¬ (4000:Int)<l.length:=by simpa using h1
  have e2:l.take 4000=l:=List.take_of_length_le (by omega)
  simp only [h1,e2,go_sem]
  refine ⟨[(4,56)],[],_,rfl,rfl,?_,?_,?_⟩
  ·simp only [bq,outs,dM,bS,List.map_nil,List.nil_append,aR,au,rv,jh,go_sem]
   trivial
  ·simp only [gG]
  ·simp only [aD,rv,go_sem]
def Oe (r lo hi:Int):Int:=if r<0 then 0 else if 65536<=r then 0 else if lo<0 then 0 else if 65536<=hi then 0 else if hi<lo then 0 else if lo<=r then if r<=hi then r else lo+r.tmod (hi - lo+1) else lo+r.tmod (hi - lo+1)
def ZT (n:Int) (q:Nat):Int:=IntKind.u8.wrap (n.fdiv (2 ^ (8*(3 - q))))
def Gy (n:Int):Nat->List (List AV)
 |0=>[]
 |q+1=>Gy n q++[[.v (.int .u8 (ZT n q))]]
def ZU (h:Int) (x:List AV):Int:=match x with
 |[.v (.int .u8 b)]=>bits .and .i64 (IntKind.i64.wrap (bits .xor .i64 h b*16777619)) 4294967295
 |_=>h
def Gz (xs:List (List AV)):Nat->Int
 |0=>2166136261
 |j+1=>ZU (Gz xs j) (nth xs j)
def Og (id:Int):Int:=if 0<=id/\id<=1073741824 then
 bits .xor .i64 ((Gz (Gy id 4) 4).fdiv (2 ^ (min 16 64))) (bits .and .i64 (Gz (Gy id 4) 4) 65535) else 0
def ak.ok (m:ak):Prop:=(1<=m.id/\m.id<=1073741824)/\(0<=m.route/\m.route<=65535)/\(0<=m.epoch/\m.epoch<=1000)/\(0<=m.count/\m.count<=3)/\(m.count<=m.gen/\m.gen<=65536)/\(0<=m.sent/\m.sent<=1000)/\m.body.size<=3
def oZ (x lo hi:Int):Bool:=decide (lo<=x)&&decide (x<=hi)
theorem ZV (x lo hi:Int):Fn Tryz.prog 418 [I x,I lo,I hi] [] (Bo (oZ x lo hi)) [] []:=by
 refine Fn.aB Zy (by simp) ?_
 unfold Gl SC.mk'
 simp only [go_sem]
 refine je (fun h1=> ?_) (fun h1=> ?_)
 ·simp only [h1,go_sem]
  refine Fin.aQ _ rfl rfl rfl ?_
  simp only [aD,oZ,h1,Bool.true_and]
 ·simp only [h1,go_sem]
  refine Fin.aQ _ rfl rfl rfl ?_
  simp only [aD,oZ,h1,Bool.false_and]
def ak.good (m:ak):Bool:=oZ m.id 1 1073741824&&(oZ m.route 0 65535&&(oZ m.epoch 0 65536&&(oZ m.count 0 8&&(oZ m.gen m.count 65536&&oZ m.sent 0 1073741824))))
def ak.val (m:ak):Int:=if m.good then (if 16<m.body.size then 2 else 0) else 1
theorem GA (m:ak):Fn Tryz.prog 369 [.agg m.enc] [] (I m.val) [] []:=by
 refine Fn.aB Zu (by simp) ?_
 unfold Gb SC.mk' ak.enc
 simp only [go_sem]
 repeat' first
  |(refine je (fun h1=> ?_) (fun h1=> ?_)<;>simp only [h1,go_sem])
  |(refine dQ (fun h1=> ?_) (fun h1=> ?_)<;>simp only [h1,go_sem])
  |(refine aS (ZV _ _ _) rfl rfl ?_;simp only [go_sem])
  |refine Fin.aQ _ rfl rfl rfl ?_
 all_goals simp_all [ak.val,ak.good,aD]<;>omega
def dK (ms:List ak):List (List AV):=ms.map ak.enc
theorem xZ (ms:List ak):(dK ms).length=ms.length:=by simp [dK]
theorem x9 {ms:List ak} {k:Nat} (h:k<ms.length):nth (dK ms) k=ms[k].enc:=by simp [dK,nth,h]
theorem dJ (m:ak):m.enc.length=7:=rfl
theorem ZW (m:ak):m.enc.take 7=m.enc:=rfl
theorem ZX (m:ak):bf m.enc=true:=rfl
theorem ZY (m:ak):jQ m.enc=true:=rfl
theorem Z0 (m:ak):(AV.agg m.enc).pure=true:=rfl
theorem Oh (xs ys:List ak):dK (xs++ys)=dK xs++dK ys:=by simp [dK]
theorem GD (xs:List ak) (k:Nat):(dK xs).take k=dK (xs.take k):=by simp [dK,List.map_take]
attribute [go_sem] xZ dJ ZW ZX ZY Z0
abbrev mg (ms:List ak):AV:= .sl 7 (dK ms)
def ids (ms:List ak):List Int:=ms.map ak.id
theorem tu (ms:List ak):(ids ms).length=ms.length:=by simp [ids]
theorem Z4:∀ m:ak,gu [0,0,0,0,0,0,1] m.enc m.enc=some true:=fun m=>by
 simp [gu,ak.enc]
attribute [go_sem] Z4
def eG:List ak->Int
 |[]=>0
 |m::ms=>if m.val≠0 then m.val else eG ms
theorem Oi {ms:List ak} {k:Nat} (h:k<ms.length) (h0:eG (ms.take k)=0):eG (ms.take (k+1))=ms[k].val/\(ms[k].val≠0->eG ms=ms[k].val):=by
 induction ms generalizing k with
 |nil=>simp at h
 |cons m ms ih=>
  cases k with
  |zero=>simp [eG];exact ⟨fun h=>h.symm,fun h1 h2=>absurd h2 h1⟩
  |succ k=>
   simp only [List.take_succ_cons,eG] at h0 ⊢
   by_cases hm:m.val≠0
   ·rw [if_pos hm] at h0;exact absurd h0 hm
   ·rw [if_neg hm] at h0
    simp only [hm,if_false,List.getElem_cons_succ]
    exact ih (by simpa using h) h0
theorem Z5 (ms:List ak) (hl:ms.length<=100000):Fn Tryz.prog 361 [mg ms] [] (I (eG ms)) [] []:=by
 refine Fn.aB Zq (by simp) ?_
 unfold F8 SC.mk'
 simp only [go_sem]
 refine go_loop (fun j:{j:Nat // j<=ms.length/\eG (ms.take j)=0}=>⟨1000,[(6,mg ms),(7,I ms.length),(8,I j.1)],[]⟩) (fun j=>ms.length - j.1) ⟨0,by omega,rfl⟩ (Wk.mk [] [] rfl rfl (by simp only [go_sem]) (by simp only [go_sem]) (by simp only [rv,go_sem];try rfl)) ?_
 intro j B hB
 simp only [go_sem]
 refine dQ (fun h1=> ?_) (fun h1=> ?_)<;>simp only [h1,go_sem]
 ·have e1:j.1<ms.length:=by simp only [decide_eq_true_eq] at h1;omega
  have e2:=Oi e1 j.2.2
  simp only [Int.toNat_natCast,x9 e1,go_sem]
  have hq:0<=(j.1:Int)/\(j.1:Int)<(ms.length:Int):=⟨by omega,by omega⟩
  refine ⟨hq,?_⟩
  refine aS (GA _) rfl rfl ?_
  simp only [go_sem]
  refine dQ (fun h2=> ?_) (fun h2=> ?_)<;>simp only [h2,go_sem]
  ·refine Fin.aQ _ rfl rfl rfl ?_
   rw [e2.2 (by simpa using h2)]
   rfl
  ·have e3:ms[j.1].val=0:=by simpa using h2
   simp only [cZ (show j.1<=100000 by omega),go_sem]
   exact hB _ ⟨j.1+1,e1,e2.1.trans e3⟩ (by simp only;omega) (Wk.mk [] [] rfl rfl (by simp only [go_sem]) (by simp only [go_sem]) (by simp only [rv,go_sem]))
 ·have e1:j.1=ms.length:=by have:=j.2.1;simp only [decide_eq_false_iff_not] at h1;omega
  have e2:=j.2.2
  rw [e1,List.take_length] at e2
  rw [e2]
  exact Fin.aQ _ rfl rfl rfl rfl
def iN (xs:List Int):List (Value×AV):=xs.map fun i=>(.int .i64 i,Bo true)
theorem Z6 (h:List (Nat×Ob)) (S:List (Nat×Nat)) (N:List Nat) (l:List Int):kJ h S N (iN l) (iN l)=True:=by
 simp only [eq_iff_iff,iff_true]
 induction l with
 |nil=>simp [iN,kJ]
 |cons x l ih=>simp only [iN,List.map_cons,kJ,rv,true_and] at ih ⊢;exact ih
attribute [go_sem] Z6
theorem vF (n:Int):∀ xs:List Int,iD (iN xs) .i64 n=some (if n ∈ xs then some (Bo true) else none)
 |[]=>rfl
 |x::xs=>by
  have ih:=vF n xs
  simp only [iN,List.map_cons,iD,if_true,List.mem_cons] at ih ⊢
  by_cases e:n=x
  ·rw [if_pos e,if_pos (.inl e)]
  ·rw [if_neg e,ih]
   by_cases h:n ∈ xs
   ·rw [if_pos h,if_pos (.inr h)]
   ·rw [if_neg h,if_neg (by simp [e,h])]
theorem vG (n:Int):∀ xs:List Int,n ∉ xs->mM (iN xs) .i64 n (Bo true)=some (iN (xs++[n]))
 |[],_=>rfl
 |x::xs,h=>by
  simp only [List.mem_cons,not_or] at h
  have ih:=vG n xs h.2
  simp only [iN,List.map_cons,List.cons_append,mM,if_true] at ih ⊢
  rw [if_neg h.1,ih]
def dup (ms:List ak):Bool:= !decide ((ids ms).Nodup)
theorem yc {l:List Int} {k:Nat} (h:k<l.length):(l.take (k+1)).Nodup↔(l.take k).Nodup/\l[k] ∉ l.take k:=by
 rw [List.take_succ_eq_append_getElem h,List.nodup_append]
 constructor
 ·rintro ⟨h1,_,h3⟩
  exact ⟨h1,fun hm=>h3 _ hm _ (by simp) rfl⟩
 ·rintro ⟨h1,h2⟩
  refine ⟨h1,by simp,fun a ha b hb=> ?_⟩
  simp only [List.mem_singleton] at hb
  subst hb
  intro e;subst e;exact h2 ha
theorem Z7 {ms:List ak} {k:Nat} (h:k<(ids ms).length) (hm:(ids ms)[k] ∈ (ids ms).take k):dup ms=true:=by
 unfold dup
 simp only [Bool.not_eq_true',decide_eq_false_iff_not]
 intro hn
 have h1:((ids ms).take (k+1)).Nodup:=hn.sublist (List.take_sublist _ _)
 exact ((yc h).1 h1).2 hm
theorem Z8 (ms:List ak) (hl:ms.length<=100000):Fn Tryz.prog 362 [mg ms] [] (Bo (dup ms)) [] []:=by
 refine Fn.aB Zr (by simp) ?_
 unfold F9 SC.mk'
 simp only [go_sem]
 refine go_loop (fun j:{j:Nat // j<=ms.length/\((ids ms).take j).Nodup}=>⟨1000,[(3,.mp 16),(7,mg ms),(8,I ms.length),(9,I j.1)],[(16,.map (iN ((ids ms).take j.1)))]⟩) (fun j=>ms.length - j.1) ⟨0,by omega,by simp⟩
  (Wk.mk [(16,16)] [] rfl rfl (by simp only [bq,aR,rv,iN,List.take_zero,List.map_nil,go_sem]) (by simp only [go_sem]) (by simp only [rv,go_sem];try rfl)) ?_
 intro j B hB
 simp only [go_sem]
 refine dQ (fun h1=> ?_) (fun h1=> ?_)<;>simp only [h1,go_sem]
 ·have e1:j.1<ms.length:=by simp only [decide_eq_true_eq] at h1;omega
  have e2:j.1<(ids ms).length:=by rw [tu];exact e1
  have e3:(ids ms)[j.1]=ms[j.1].id:=by simp [ids]
  have hq:0<=(j.1:Int)/\(j.1:Int)<(ms.length:Int):=⟨by omega,by omega⟩
  simp only [Int.toNat_natCast,x9 e1,ak.enc,vF,go_sem]
  refine ⟨hq,?_⟩
  by_cases h2:ms[j.1].id ∈ (ids ms).take j.1
  ·simp only [h2,if_true,Option.getD_some,go_sem]
   refine Fin.aQ _ rfl rfl rfl ?_
   rw [Z7 e2 (by rw [e3];exact h2)]
   rfl
  ·simp only [h2,if_false,Option.getD_none,vG _ _ h2,cZ (show j.1<=100000 by omega),go_sem]
   have e4:(ids ms).take j.1++[ms[j.1].id]=(ids ms).take (j.1+1):=by rw [List.take_succ_eq_append_getElem e2,e3]
   refine hB _ ⟨j.1+1,e1,(yc e2).2 ⟨j.2.2,by rw [e3];exact h2⟩⟩ (by simp only;omega) (Wk.mk [(16,16)] [] rfl rfl (by simp only [bq,aR,e4,go_sem]) (by simp only [go_sem]) (by simp only [rv,go_sem]))
 ·have e1:j.1=ms.length:=by have:=j.2.1;simp only [decide_eq_false_iff_not] at h1;omega
  have e2:=j.2.2
  rw [e1,List.take_of_length_le (by rw [tu];omega)] at e2
  have e3:dup ms=false:=by simp [dup,e2]
  rw [e3]
  exact Fin.aQ _ rfl rfl rfl rfl
def jZ (ms:List ak) (x:Int):Int:=if x ∈ ids ms then ((ids ms).idxOf x:Nat) else -1
theorem Z9 {l:List Int} {x:Int} {k:Nat} (h:k<l.length) (h0:x ∉ l.take k) (h1:l[k]=x):x ∈ l/\l.idxOf x=k:=by
 refine ⟨by rw [<-h1];exact List.getElem_mem h,?_⟩
 have e:l=l.take k++x::l.drop (k+1):=by rw [<-h1];rw [List.getElem_cons_drop,List.take_append_drop]
 rw [e,List.idxOf_append,if_neg h0]
 simp only [List.idxOf_cons_self,Nat.add_zero,List.length_take]
 omega
end Go.Eng
