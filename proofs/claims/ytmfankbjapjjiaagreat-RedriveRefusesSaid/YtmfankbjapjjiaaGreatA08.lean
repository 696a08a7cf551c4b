/-
  Part of a proof: lemmas and definitions of this work.
  No condition.
-/
import Derived.Test.YtmfankbjapjjiaaGreatA04
import Derived.Test.YtmfankbjapjjiaaGreatA07
set_option linter.all false
set_option maxRecDepth 100000
set_option maxHeartbeats 8000000
namespace Go.Eng
open Go
theorem ah {a b:Prop} (x:a) (y:b):a/\b:=⟨x,y⟩
section
variable {P:Program} {f:FuncId} {xs ys:List AV} {r:AV} {h:List (Nat×Ob)} {nm:Nat} {k:List It} {Q:Exit->St->Prop} {n n':Nat} {t:List (Nat×AV)} {d:Option Nat} {l ops:List aH} {acc:List bR}
theorem sC (hk:go P (.ops (nm+8) n' l::k) Q n (bP t d r) h) (hF:Fn P f xs [] r [] []:=by assumption) (hp:dA xs=true:=by rfl) (hr:r.pure=true:=by rfl):nW P nm f xs d n' l k Q n t h:=aQ hF hp hr hk
theorem sD (hk:go P (.dh (nm+8) n' l ops (([],[])::acc)::k) Q n (bP t d r) h) (hF:Fn P f xs [] r [] []:=by assumption) (hp:dA xs=true:=by rfl) (hr:r.pure=true:=by rfl):nY P nm f xs d n' l ops acc k Q n t h:=bX hF hp hr hk
theorem sZ (hk:go P (.ops (nm+8) n' l::k) Q n (bP t d r) (kills (dF ys)++h)) (hF:Fn P f xs [] r [] []:=by assumption) (ha:au h [] [] xs ys:=by ((try simp only [au,rv,hJ,go_sem])<;>(try simp [encI,rv,au,get])<;>rfl)) (hz:pK h (dF ys)=true:=by rfl) (hp:dA xs=true:=by rfl) (hr:r.pure=true:=by rfl):nW P nm f ys d n' l k Q n t h:=iK hF ha hz hp hr hk
theorem sY (hk:go P (.dh (nm+8) n' l ops ((dF ys,(kills (dF ys)).map Prod.fst)::acc)::k) Q n (bP t d r) (kills (dF ys)++h)) (hF:Fn P f xs [] r [] []:=by assumption) (ha:au h [] [] xs ys:=by ((try simp only [au,rv,hJ,go_sem])<;>(try simp [encI,rv,au,get])<;>rfl)) (hz:pK h (dF ys)=true:=by rfl) (hp:dA xs=true:=by rfl) (hr:r.pure=true:=by rfl):nY P nm f ys d n' l ops acc k Q n t h:=EM hF ha hz hp hr hk
theorem sF {B:List Nat} (hk:go P k Q n (um h [] t) (rX h B)) (hB:gy [] h=B:=by simp only [go_sem];rfl) (hn:ER n B=true:=by rfl) (hp:C8 h B/\vS h [] t:=by (simp only [go_sem]<;>first|trivial|omega|(simp<;>omega))):vQ P k Q n t h:=Db hB hn hp hk
theorem sM {res:List iE} {r:AV} {t:List (Nat×AV)} {xs:List AV} (h3:rv h [] [] r (ay xs)) (h1:iZ t h res=some xs:=by rfl) (h2:iD h [] [] []=true:=by rfl):Fin res r [] [] t h:=Fin.aD xs h1 h2 h3
end
theorem bn {A B:Prop} (k:B) (h:A:=by first|exact ⟨by omega,by omega⟩|rfl|omega|exact ⟨by omega,by omega,by omega⟩):A/\B:=⟨h,k⟩
theorem wk {s s':St} (S:List (Nat×Nat)) (N:List Nat) (hS:iD s.h S N s'.h=true:=by rfl) (hn:(S.map Prod.fst++N).all (fun k=>decide (k<s'.n))=true:=by rfl)
 (hH:cO s.h S N s'.h S:=by (simp only [cO,bK,au,rv,go_sem]<;>try simp)) (hN:gY s'.h N:=by (simp only [gY,go_sem]<;>try simp [encI])) (hT:d9 s.h S N s.t s'.t:=by (simp only [d9,rv,au,go_sem]<;>try simp)):Wk s s':=Wk.mk S N hS hn hH hN hT
theorem fz {G:Prop} (h:G:=by (subst hR;first|rfl|simp_all [rv,au,get,av.enter,aj.enc,av.enc,Task.enc,Ev.enc,bE.enc,aW.enc,cB.enc,Dead.enc,Dir.enc,ak.enc,Walk.enc,aU.enc,aI.enc,-Int.not_lt,-Int.not_le]<;>try rfl)):G:=h
theorem aX {G:Prop} (h:G:=by
 repeat' first
  |(first|refine sC ?_|refine sD ?_|refine sZ ?_|refine sY ?_|refine sF ?_);simp only [go_sem]
  |(first|refine bD (fun hq=> ?_) (fun hq=> ?_)|refine dS (fun hq=> ?_) (fun hq=> ?_)|refine dD (fun hq=> ?_) (fun hq=> ?_))<;>simp only [hq,go_sem]
  |refine sM ?_;simp only [ay,rv,au,get,go_sem]
  |refine bn ?_
  |fail
 all_goals ((try clear aK);(try clear aV);(try clear bL);(try clear dV);(try clear fT);(try clear mV);(try clear hgo);(try clear hrl);(try clear hel);(try clear hpl);(try clear htk);(try clear hdc);(try clear hse);(try clear hho);(try clear hsp);(try clear hst);(try clear hre);(try clear hro))
 all_goals first|rfl|((try subst hR);first|rfl|(simp_all [rv,au,get,ay,aj.enc,av.enc,Task.enc,Ev.enc,bE.enc,aW.enc,cB.enc,Dead.enc,Dir.enc,ak.enc,Walk.enc,aU.enc,aI.enc,-Int.not_lt,-Int.not_le]<;>rfl)|(simp_all [rv,au,get,ay,aj.enc,av.enc,Task.enc,Ev.enc,bE.enc,aW.enc,cB.enc,Dead.enc,Dir.enc,ak.enc,Walk.enc,aU.enc,aI.enc,av.enter,Task.jS,cK.enc,dH,Task.ev,encI,bN.enc,av.bg,Setup.enc,aF.enc,ai.enc,bH.enc,-Int.not_lt,-Int.not_le]<;>rfl))):G:=h
theorem aZ {G:Prop} (h:G:=by
 repeat' first
  |(first|refine sC ?_|refine sD ?_|refine sZ ?_|refine sY ?_|refine sZ ?_ aK|refine sY ?_ aK|refine sZ ?_ aV|refine sY ?_ aV|refine sZ ?_ bL|refine sY ?_ bL|refine sZ ?_ dV|refine sY ?_ dV|refine sZ ?_ fT|refine sY ?_ fT|refine sF ?_);simp only [hJ,go_sem]
  |(first|refine bD (fun hq=> ?_) (fun hq=> ?_)|refine dS (fun hq=> ?_) (fun hq=> ?_)|refine dD (fun hq=> ?_) (fun hq=> ?_))<;>simp only [hq,hJ,go_sem]
  |refine sM ?_;simp only [ay,rv,au,get,hJ,go_sem]
  |refine bn ?_
  |fail
 all_goals ((try clear hJ);(try clear aK);(try clear aV);(try clear bL);(try clear dV);(try clear fT);(try clear mV);(try clear hgo);(try clear hrl);(try clear hel);(try clear hpl);(try clear htk);(try clear hdc);(try clear hse);(try clear hho);(try clear hsp);(try clear hst);(try clear hre);(try clear hro))
 all_goals first|rfl|((try subst hR);first|rfl|(simp_all [rv,au,get,ay,aj.enc,av.enc,Task.enc,Ev.enc,bE.enc,aW.enc,cB.enc,Dead.enc,Dir.enc,ak.enc,Walk.enc,aU.enc,aI.enc,-Int.not_lt,-Int.not_le]<;>rfl)|(simp_all [rv,au,get,ay,aj.enc,av.enc,Task.enc,Ev.enc,bE.enc,aW.enc,cB.enc,Dead.enc,Dir.enc,ak.enc,Walk.enc,aU.enc,aI.enc,av.enter,Task.jS,cK.enc,dH,Task.ev,encI,bN.enc,av.bg,Setup.enc,aF.enc,ai.enc,bH.enc,-Int.not_lt,-Int.not_le]<;>rfl))):G:=h
theorem aY {G:Prop} (h:G:=by
 repeat' first
  |(first|refine sC ?_|refine sD ?_|refine sZ ?_|refine sY ?_|refine sZ ?_ aK|refine sY ?_ aK|refine sZ ?_ aV|refine sY ?_ aV|refine sZ ?_ bL|refine sY ?_ bL|refine sZ ?_ dV|refine sY ?_ dV|refine sZ ?_ fT|refine sY ?_ fT|refine sF ?_);simp only [hJ,go_sem]
  |(first|refine bD (fun hq=> ?_) (fun hq=> ?_)|refine dS (fun hq=> ?_) (fun hq=> ?_)|refine dD (fun hq=> ?_) (fun hq=> ?_))<;>simp only [hq,hJ,go_sem]
  |refine sM ?_;simp only [ay,rv,au,get,hJ,go_sem]
  |refine bn ?_
  |fail
 all_goals ((try clear hJ);(try clear aK);(try clear aV);(try clear bL);(try clear dV);(try clear fT);(try clear mV);(try clear hgo);(try clear hrl);(try clear hel);(try clear hpl);(try clear htk);(try clear hdc);(try clear hse);(try clear hho);(try clear hsp);(try clear hst);(try clear hre);(try clear hro);(try clear ld);(try clear h1);(try clear h2);(try clear hld);(try clear MU);(try clear q1);(try clear q2);(try clear q1'))
 all_goals first|rfl|((try subst hR);first|rfl|(simp_all [rv,au,get,ay,aj.enc,av.enc,Task.enc,Ev.enc,bE.enc,aW.enc,cB.enc,Dead.enc,Dir.enc,ak.enc,Walk.enc,aU.enc,aI.enc,-Int.not_lt,-Int.not_le]<;>rfl)|(simp_all [rv,au,get,ay,aj.enc,av.enc,Task.enc,Ev.enc,bE.enc,aW.enc,cB.enc,Dead.enc,Dir.enc,ak.enc,Walk.enc,aU.enc,aI.enc,av.enter,Task.jS,cK.enc,dH,Task.ev,encI,bN.enc,av.bg,Setup.enc,aF.enc,ai.enc,bH.enc,-Int.not_lt,-Int.not_le]<;>rfl))):G:=h
end Go.Eng
namespace Go.Eng
open Go
abbrev I (n:Int):AV:= .v (.int .i64 n)
abbrev B8 (b:UInt8):AV:= .v (.int .u8 b.toNat)
abbrev Bo (b:Bool):AV:= .v (.bool b)
abbrev Nl:AV:= .v (.slice none 0 0)
abbrev Z:AV:= .v (.int .i64 0)
def encI (l:List Int):List (List AV):=l.map fun z=>[I z]
def encS (l:List ByteArray):List (List AV):=l.map fun z=>[.v (.string z)]
def dL (b:List UInt8):List (List AV):=b.map fun x=>[B8 x]
abbrev gP (b:List UInt8):AV:= .sl 1 (dL b)
def bW (l:List (List UInt8)):List (List AV):=l.map fun b=>[gP b]
theorem bF {n:Int} (h: -9223372036854775808<=n/\n<=9223372036854775807):IntKind.i64.wrap n=n:=by
 rw [IntKind.wrap_i64];omega
structure ai where
 id:Int
 route:Int
 epoch:Int
 count:Int
 gen:Int
 sent:Int
 body:ByteArray
def ai.enc (x:ai):List AV:=[I x.id,I x.route,I x.epoch,I x.count,I x.gen,I x.sent,.v (.string x.body)]
abbrev ai.z:ai:=⟨0,0,0,0,0,0,⟨#[]⟩⟩
theorem ai.fV (x:ai):x.enc.length=7:=rfl
@[go_sem] theorem ai.gQ (x:ai):eT x.enc=[]:=rfl
structure Ring where
 cells:List ai
 head:Int
 size:Int
def Ring.enc (x:Ring):List AV:=[.sl 7 (x.cells.map ai.enc),I x.head,I x.size]
abbrev Ring.z:Ring:=⟨[],0,0⟩
theorem Ring.fV (x:Ring):x.enc.length=3:=rfl
@[go_sem] theorem Ring.gQ (x:Ring):eT x.enc=[]:=rfl
structure Due where
 dl:Int
 id:Int
def Due.enc (x:Due):List AV:=[I x.dl,I x.id]
abbrev Due.z:Due:=⟨0,0⟩
theorem Due.fV (x:Due):x.enc.length=2:=rfl
@[go_sem] theorem Due.gQ (x:Due):eT x.enc=[]:=rfl
structure Lease where
 msg:ai
 dl:Int
def Lease.enc (x:Lease):List AV:=[I x.msg.id,I x.msg.route,I x.msg.epoch,I x.msg.count,I x.msg.gen,I x.msg.sent,.v (.string x.msg.body),I x.dl]
abbrev Lease.z:Lease:=⟨ai.z,0⟩
theorem Lease.fV (x:Lease):x.enc.length=8:=rfl
@[go_sem] theorem Lease.gQ (x:Lease):eT x.enc=[]:=rfl
structure Table where
 l:List Lease
 heap:List Due
def Table.enc (x:Table):List AV:=[.sl 8 (x.l.map Lease.enc),.sl 2 (x.heap.map Due.enc)]
abbrev Table.z:Table:=⟨[],[]⟩
theorem Table.fV (x:Table):x.enc.length=2:=rfl
@[go_sem] theorem Table.gQ (x:Table):eT x.enc=[]:=rfl
structure ak where
 live:Bool
 low:Int
 high:Int
 ready:Ring
 aR:Table
def ak.enc (x:ak):List AV:=[Bo x.live,I x.low,I x.high,.sl 7 (x.ready.cells.map ai.enc),I x.ready.head,I x.ready.size,.sl 8 (x.aR.l.map Lease.enc),.sl 2 (x.aR.heap.map Due.enc)]
abbrev ak.z:ak:=⟨false,0,0,Ring.z,Table.z⟩
theorem ak.fV (x:ak):x.enc.length=8:=rfl
@[go_sem] theorem ak.gQ (x:ak):eT x.enc=[]:=rfl
structure Dead where
 cap:Int
 l:List ai
def Dead.enc (x:Dead):List AV:=[I x.cap,.sl 7 (x.l.map ai.enc)]
abbrev Dead.z:Dead:=⟨0,[]⟩
theorem Dead.fV (x:Dead):x.enc.length=2:=rfl
@[go_sem] theorem Dead.gQ (x:Dead):eT x.enc=[]:=rfl
structure Hd where
 id:Int
 gen:Int
 route:Int
 hint:Int
def Hd.enc (x:Hd):List AV:=[I x.id,I x.gen,I x.route,I x.hint]
abbrev Hd.z:Hd:=⟨0,0,0,0⟩
theorem Hd.fV (x:Hd):x.enc.length=4:=rfl
@[go_sem] theorem Hd.gQ (x:Hd):eT x.enc=[]:=rfl
structure Span where
 low:Int
 high:Int
 eU:Int
def Span.enc (x:Span):List AV:=[I x.low,I x.high,I x.eU]
abbrev Span.z:Span:=⟨0,0,0⟩
theorem Span.fV (x:Span):x.enc.length=3:=rfl
@[go_sem] theorem Span.gQ (x:Span):eT x.enc=[]:=rfl
structure Dir where
 version:Int
 l:List Span
 aL:List Int
def Dir.enc (x:Dir):List AV:=[I x.version,.sl 3 (x.l.map Span.enc),.sl 1 (encI x.aL)]
abbrev Dir.z:Dir:=⟨0,[],[]⟩
theorem Dir.fV (x:Dir):x.enc.length=3:=rfl
@[go_sem] theorem Dir.gQ (x:Dir):eT x.enc=[]:=rfl
structure bN where
 kind:Int
 bA:Int
 to:Int
 mid:Int
def bN.enc (x:bN):List AV:=[I x.kind,I x.bA,I x.to,I x.mid]
abbrev bN.z:bN:=⟨0,0,0,0⟩
theorem bN.fV (x:bN):x.enc.length=4:=rfl
@[go_sem] theorem bN.gQ (x:bN):eT x.enc=[]:=rfl
structure aI where
 seq:Int
 epoch:Int
 ready:Int
 eH:Int
def aI.enc (x:aI):List AV:=[I x.seq,I x.epoch,I x.ready,I x.eH]
abbrev aI.z:aI:=⟨0,0,0,0⟩
theorem aI.fV (x:aI):x.enc.length=4:=rfl
@[go_sem] theorem aI.gQ (x:aI):eT x.enc=[]:=rfl
structure Slot where
 owner:Int
 eU:ak
def Slot.enc (x:Slot):List AV:=[I x.owner,Bo x.eU.live,I x.eU.low,I x.eU.high,.sl 7 (x.eU.ready.cells.map ai.enc),I x.eU.ready.head,I x.eU.ready.size,.sl 8 (x.eU.aR.l.map Lease.enc),.sl 2 (x.eU.aR.heap.map Due.enc)]
abbrev Slot.z:Slot:=⟨0,ak.z⟩
theorem Slot.fV (x:Slot):x.enc.length=9:=rfl
@[go_sem] theorem Slot.gQ (x:Slot):eT x.enc=[]:=rfl
structure qQ where
 owner:Int
 dead:Dead
def qQ.enc (x:qQ):List AV:=[I x.owner,I x.dead.cap,.sl 7 (x.dead.l.map ai.enc)]
abbrev qQ.z:qQ:=⟨0,Dead.z⟩
theorem qQ.fV (x:qQ):x.enc.length=3:=rfl
@[go_sem] theorem qQ.gQ (x:qQ):eT x.enc=[]:=rfl
structure aj where
 slots:List Slot
 bU:List aI
 dead:qQ
 dir:Dir
 epoch:Int
 clock:Int
 fA:Int
def aj.enc (x:aj):List AV:=[.sl 9 (x.slots.map Slot.enc),.sl 4 (x.bU.map aI.enc),I x.dead.owner,I x.dead.dead.cap,.sl 7 (x.dead.dead.l.map ai.enc),I x.dir.version,.sl 3 (x.dir.l.map Span.enc),.sl 1 (encI x.dir.aL),I x.epoch,I x.clock,I x.fA]
abbrev aj.z:aj:=⟨[],[],qQ.z,Dir.z,0,0,0⟩
theorem aj.fV (x:aj):x.enc.length=11:=rfl
@[go_sem] theorem aj.gQ (x:aj):eT x.enc=[]:=rfl
structure Setup where
 slots:Int
 live:Int
 capacity:Int
 dead:Int
 limit:Int
 clock:Int
 fA:Int
 epoch:Int
def Setup.enc (x:Setup):List AV:=[I x.slots,I x.live,I x.capacity,I x.dead,I x.limit,I x.clock,I x.fA,I x.epoch]
abbrev Setup.z:Setup:=⟨0,0,0,0,0,0,0,0⟩
theorem Setup.fV (x:Setup):x.enc.length=8:=rfl
@[go_sem] theorem Setup.gQ (x:Setup):eT x.enc=[]:=rfl
structure aW where
 cells:List Int
 phase:Int
 got:Int
 tries:Int
 wait:Int
def aW.enc (x:aW):List AV:=[.sl 1 (encI x.cells),I x.phase,I x.got,I x.tries,I x.wait]
abbrev aW.z:aW:=⟨[],0,0,0,0⟩
theorem aW.fV (x:aW):x.enc.length=5:=rfl
@[go_sem] theorem aW.gQ (x:aW):eT x.enc=[]:=rfl
structure cB where
 phase:Int
 epoch:Int
 clock:Int
 stamp:Int
def cB.enc (x:cB):List AV:=[I x.phase,I x.epoch,I x.clock,I x.stamp]
abbrev cB.z:cB:=⟨0,0,0,0⟩
theorem cB.fV (x:cB):x.enc.length=4:=rfl
@[go_sem] theorem cB.gQ (x:cB):eT x.enc=[]:=rfl
structure bE where
 aN:List ak
 dead:Dead
 order:List Int
 carry:List ai
 dP:List bN
def bE.enc (x:bE):List AV:=[.sl 8 (x.aN.map ak.enc),I x.dead.cap,.sl 7 (x.dead.l.map ai.enc),.sl 1 (encI x.order),.sl 7 (x.carry.map ai.enc),.sl 4 (x.dP.map bN.enc)]
abbrev bE.z:bE:=⟨[],Dead.z,[],[],[]⟩
theorem bE.fV (x:bE):x.enc.length=6:=rfl
@[go_sem] theorem bE.gQ (x:bE):eT x.enc=[]:=rfl
structure av where
 phase:Int
 at_:Int
 lock:aW
 aJ:cB
 aN:List ak
 dead:Dead
 bU:List aI
 dir:Dir
 out:bE
 limit:Int
 carry:List ai
def av.enc (x:av):List AV:=[I x.phase,I x.at_,.sl 1 (encI x.lock.cells),I x.lock.phase,I x.lock.got,I x.lock.tries,I x.lock.wait,I x.aJ.phase,I x.aJ.epoch,I x.aJ.clock,I x.aJ.stamp,.sl 8 (x.aN.map ak.enc),I x.dead.cap,.sl 7 (x.dead.l.map ai.enc),.sl 4 (x.bU.map aI.enc),I x.dir.version,.sl 3 (x.dir.l.map Span.enc),.sl 1 (encI x.dir.aL),.sl 8 (x.out.aN.map ak.enc),I x.out.dead.cap,.sl 7 (x.out.dead.l.map ai.enc),.sl 1 (encI x.out.order),.sl 7 (x.out.carry.map ai.enc),.sl 4 (x.out.dP.map bN.enc),I x.limit,.sl 7 (x.carry.map ai.enc)]
abbrev av.z:av:=⟨0,0,aW.z,cB.z,[],Dead.z,[],Dir.z,bE.z,0,[]⟩
theorem av.fV (x:av):x.enc.length=26:=rfl
@[go_sem] theorem av.gQ (x:av):eT x.enc=[]:=rfl
structure Walk where
 next:Int
 covered:Int
def Walk.enc (x:Walk):List AV:=[I x.next,I x.covered]
abbrev Walk.z:Walk:=⟨0,0⟩
theorem Walk.fV (x:Walk):x.enc.length=2:=rfl
@[go_sem] theorem Walk.gQ (x:Walk):eT x.enc=[]:=rfl
structure bJ where
 kind:Int
 home:Int
 max_:Int
 bC:Int
 bA:Int
 to:Int
 bodies:List ByteArray
 tokens:List (List UInt8)
def bJ.enc (x:bJ):List AV:=[I x.kind,I x.home,I x.max_,I x.bC,I x.bA,I x.to,.sl 1 (encS x.bodies),.sl 1 (bW x.tokens)]
abbrev bJ.z:bJ:=⟨0,0,0,0,0,0,[],[]⟩
theorem bJ.fV (x:bJ):x.enc.length=8:=rfl
@[go_sem] theorem bJ.gQ (x:bJ):eT x.enc=[]:=rfl
structure aU where
 err:Int
 id:Int
 tokens:List (List UInt8)
 bodies:List ByteArray
 ready:Int
 eH:Int
 moved:Int
def aU.enc (x:aU):List AV:=[I x.err,I x.id,.sl 1 (bW x.tokens),.sl 1 (encS x.bodies),I x.ready,I x.eH,I x.moved]
abbrev aU.z:aU:=⟨0,0,[],[],0,0,0⟩
theorem aU.fV (x:aU):x.enc.length=7:=rfl
@[go_sem] theorem aU.gQ (x:aU):eT x.enc=[]:=rfl
structure cK where
 id:Int
 gen:Int
 route:Int
 dl:Int
def cK.enc (x:cK):List AV:=[I x.id,I x.gen,I x.route,I x.dl]
abbrev cK.z:cK:=⟨0,0,0,0⟩
theorem cK.fV (x:cK):x.enc.length=4:=rfl
@[go_sem] theorem cK.gQ (x:cK):eT x.enc=[]:=rfl
structure Ev where
 stamp:Int
 task:Int
 entry:Int
 kind:Int
 now:Int
 epoch:Int
 err:Int
 l:List cK
 ready:Int
 eH:Int
def Ev.enc (x:Ev):List AV:=[I x.stamp,I x.task,I x.entry,I x.kind,I x.now,I x.epoch,I x.err,.sl 4 (x.l.map cK.enc),I x.ready,I x.eH]
abbrev Ev.z:Ev:=⟨0,0,0,0,0,0,0,[],0,0⟩
theorem Ev.fV (x:Ev):x.enc.length=10:=rfl
@[go_sem] theorem Ev.gQ (x:Ev):eT x.enc=[]:=rfl
structure Task where
 number:Int
 inv:bJ
 invoked:Int
 dn:Bool
 ended:Int
 pc:Int
 entry:Int
 results:List aU
 setup:Setup
 sec:av
 dir:Dir
 walk:Walk
 slot:Int
 id:Int
 hnd:Hd
 loaded:Int
 first:List aI
 second:List aI
def Task.enc (x:Task):List AV:=[I x.number,I x.inv.kind,I x.inv.home,I x.inv.max_,I x.inv.bC,I x.inv.bA,I x.inv.to,.sl 1 (encS x.inv.bodies),.sl 1 (bW x.inv.tokens),I x.invoked,Bo x.dn,I x.ended,I x.pc,I x.entry,.sl 7 (x.results.map aU.enc),I x.setup.slots,I x.setup.live,I x.setup.capacity,I x.setup.dead,I x.setup.limit,I x.setup.clock,I x.setup.fA,I x.setup.epoch,I x.sec.phase,I x.sec.at_,.sl 1 (encI x.sec.lock.cells),I x.sec.lock.phase,I x.sec.lock.got,I x.sec.lock.tries,I x.sec.lock.wait,I x.sec.aJ.phase,I x.sec.aJ.epoch,I x.sec.aJ.clock,I x.sec.aJ.stamp,.sl 8 (x.sec.aN.map ak.enc),I x.sec.dead.cap,.sl 7 (x.sec.dead.l.map ai.enc),.sl 4 (x.sec.bU.map aI.enc),I x.sec.dir.version,.sl 3 (x.sec.dir.l.map Span.enc),.sl 1 (encI x.sec.dir.aL),.sl 8 (x.sec.out.aN.map ak.enc),I x.sec.out.dead.cap,.sl 7 (x.sec.out.dead.l.map ai.enc),.sl 1 (encI x.sec.out.order),.sl 7 (x.sec.out.carry.map ai.enc),.sl 4 (x.sec.out.dP.map bN.enc),I x.sec.limit,.sl 7 (x.sec.carry.map ai.enc),I x.dir.version,.sl 3 (x.dir.l.map Span.enc),.sl 1 (encI x.dir.aL),I x.walk.next,I x.walk.covered,I x.slot,I x.id,I x.hnd.id,I x.hnd.gen,I x.hnd.route,I x.hnd.hint,I x.loaded,.sl 4 (x.first.map aI.enc),.sl 4 (x.second.map aI.enc)]
abbrev Task.z:Task:=⟨0,bJ.z,0,false,0,0,0,[],Setup.z,av.z,Dir.z,Walk.z,0,0,Hd.z,0,[],[]⟩
theorem Task.fV (x:Task):x.enc.length=63:=rfl
@[go_sem] theorem Task.gQ (x:Task):eT x.enc=[]:=rfl
structure aF where
 setup:Setup
 arena:aj
 tasks:List Task
 log:List Ev
 steps:Int
 handles:List (List UInt8)
def aF.enc (x:aF):List AV:=[I x.setup.slots,I x.setup.live,I x.setup.capacity,I x.setup.dead,I x.setup.limit,I x.setup.clock,I x.setup.fA,I x.setup.epoch,.sl 9 (x.arena.slots.map Slot.enc),.sl 4 (x.arena.bU.map aI.enc),I x.arena.dead.owner,I x.arena.dead.dead.cap,.sl 7 (x.arena.dead.dead.l.map ai.enc),I x.arena.dir.version,.sl 3 (x.arena.dir.l.map Span.enc),.sl 1 (encI x.arena.dir.aL),I x.arena.epoch,I x.arena.clock,I x.arena.fA,.sl 63 (x.tasks.map Task.enc),.sl 10 (x.log.map Ev.enc),I x.steps,.sl 1 (bW x.handles)]
abbrev aF.z:aF:=⟨Setup.z,aj.z,[],[],0,[]⟩
theorem aF.fV (x:aF):x.enc.length=23:=rfl
@[go_sem] theorem aF.gQ (x:aF):eT x.enc=[]:=rfl
structure dx where
 index:Int
 variant:Int
 raw:List UInt8
def dx.enc (x:dx):List AV:=[I x.index,I x.variant,gP x.raw]
abbrev dx.z:dx:=⟨0,0,[]⟩
theorem dx.fV (x:dx):x.enc.length=3:=rfl
@[go_sem] theorem dx.gQ (x:dx):eT x.enc=[]:=rfl
structure bH where
 kind:Int
 pick:Int
 dN:Int
 inv:bJ
 refs:List dx
def bH.enc (x:bH):List AV:=[I x.kind,I x.pick,I x.dN,I x.inv.kind,I x.inv.home,I x.inv.max_,I x.inv.bC,I x.inv.bA,I x.inv.to,.sl 1 (encS x.inv.bodies),.sl 1 (bW x.inv.tokens),.sl 3 (x.refs.map dx.enc)]
abbrev bH.z:bH:=⟨0,0,0,bJ.z,[]⟩
theorem bH.fV (x:bH):x.enc.length=12:=rfl
@[go_sem] theorem bH.gQ (x:bH):eT x.enc=[]:=rfl
theorem aS (l:List Int):(encI l).length=l.length:=by simp [encI]
theorem dX (l:List ByteArray):(encS l).length=l.length:=by simp [encS]
theorem mW (l:List UInt8):(dL l).length=l.length:=by simp [dL]
theorem dY (l:List (List UInt8)):(bW l).length=l.length:=by simp [bW]
attribute [go_sem] aS dX mW dY List.length_map
theorem bT {α:Type} (f:α->List AV) (d:α) {l:List α} {k:Nat} (h:k<l.length):nth (l.map f) k=f (l[k]?.getD d):=by
 simp [nth,h]
theorem aj2 {l:List Int} {k:Nat} (h:k<l.length):nth (encI l) k=[I (l[k]?.getD 0)]:=by simp [nth,encI,h]
theorem abI {l:List ByteArray} {k:Nat} (h:k<l.length):nth (encS l) k=[.v (.string (l[k]?.getD ⟨#[]⟩))]:=by simp [nth,encS,h]
theorem eD {α:Type} (d:α) {l:List α} {i:Nat} (h:i<l.length):l.drop i=l[i]?.getD d::l.drop (i+1):=by
 rw [List.drop_eq_getElem_cons h,List.getElem?_eq_getElem h];rfl
theorem eO {α:Type} {l:List α} {i:Nat} (h:l.length<=i):l.drop i=[]:=List.drop_eq_nil_of_le h
theorem bB {α:Type} {l:List α} {i:Nat} (h:l.length<=i):l.take i=l:=List.take_of_length_le h
theorem aj3 (n:Nat):(n+1<=n)=False:=by simp
attribute [go_sem] aj3 nR
attribute [go_sem] reduceIte Nat.reduceAdd Nat.reduceMul Nat.reduceSub Nat.reduceEqDiff Nat.reduceLeDiff Nat.reduceLT reduceCtorEq Nat.succ_eq_add_one
attribute [go_sem] cond_true cond_false Bool.false_or Bool.or_false Nat.reduceBEq Nat.reduceBeqDiff
end Go.Eng
namespace Go.Eng
open Go Go.Proofs
theorem abJ {l:List Int} {k:Nat} (h:k<l.length):nth (encI l) k=[I l[k]]:=by simp [encI,nth,h]
theorem aj4 (l:List Int) (k:Nat):(encI l).take k=encI (l.take k):=by simp [encI,List.map_take]
theorem bQ {p:Nat} (h:p<=100000):IntKind.i64.wrap ((p:Int)+1)=((p+1:Nat):Int):=by rw [bF (by omega)];omega
theorem aj5 {p:Nat} (h:p<=100000):IntKind.i64.wrap (((p+1:Nat):Int) - 1)=(p:Int):=by rw [bF (by omega)];omega
attribute [go_sem] aS
abbrev dO (l:List Int) (a:Nat):List AV:=[.sl 1 (encI l),I a]
def om (l:List Int) (a:Nat):Int:=l[a]?.getD 0
def MV (l:List Int) (a:Nat):Nat:=if a<l.length then a+1 else a
theorem aj6 {l:List Int} {a:Nat} (h:a<l.length):om l a=l[a]:=by simp [om,h]
theorem aj7 (l:List Int) (a:Nat) (hl:l.length<=4000):Fn Tryz.prog 86 [.ptr 0 0] [dO l a] (I (om l a)) [dO l (MV l a)] []:=by
 refine Fn.aO aiV (by simp) ?_
 unfold Qm SC.mk'
 simp only [go_sem]
 refine ⟨rfl,bD (fun h1=> ?_) (fun h1=> ?_)⟩<;>simp only [h1,go_sem]
 ·have e1:¬ a<l.length:=by simp only [decide_eq_true_eq] at h1;omega
  refine Fin.mR _ rfl rfl rfl rfl rfl ?_ ?_
  ·simp only [MV,e1,go_sem]
  ·simp only [om,List.getElem?_eq_none (show l.length<=a by omega),ay];rfl
 ·have e1:a<l.length:=by simp only [decide_eq_false_iff_not] at h1;omega
  simp only [bQ (show a<=100000 by omega),aj5 (show a<=100000 by omega),Int.toNat_natCast,abJ e1,go_sem]
  refine ⟨⟨by omega,by omega⟩,rfl,?_⟩
  refine Fin.mR _ rfl rfl rfl rfl rfl ?_ ?_
  ·simp only [MV,e1,go_sem]
  ·simp only [aj6 e1,ay]
theorem aj8 (l:List Int) (a:Nat):Fn Tryz.prog 52 [.ptr 0 0] [dO l a] (Bo (decide (a<l.length))) [dO l a] []:=by
 refine Fn.aO aiR (by simp) ?_
 unfold Qf SC.mk'
 simp only [go_sem]
 refine ⟨rfl,?_⟩
 refine Fin.mR _ rfl rfl rfl rfl rfl rfl ?_
 simp only [ay,Int.ofNat_lt]
theorem MW {x n:Int} (h:0<n): -n<x.tmod n/\x.tmod n<n:=by
 have h1:=Int.tmod_lt_of_pos x h
 have h2:=Int.lt_tmod_of_pos x h
 exact ⟨h2,h1⟩
def nV (l:List Int) (a:Nat) (n:Int):Int:=if n<1 then 0 else if (om l a).tmod n<0 then (om l a).tmod n+n else (om l a).tmod n
def nN (l:List Int) (a:Nat) (n:Int):Nat:=if n<1 then a else MV l a
theorem oq (l:List Int) (a:Nat) (n:Int):0<=nV l a n:=by
 unfold nV
 split
 ·omega
 ·have ht:=MW (x:=om l a) (show 0<n by omega)
  split<;>omega
theorem ou (l:List Int) (a:Nat) {n:Int} (h:1<=n):nV l a n<n:=by
 unfold nV
 rw [if_neg (by omega)]
 have ht:=MW (x:=om l a) (show 0<n by omega)
 split<;>omega
theorem aj9 (l:List Int) (a:Nat) {n m:Int} (h:n<=m+1) (h0:0<=m):nV l a n<=m:=by
 by_cases h1:1<=n
 ·have:=ou l a h1;omega
 ·unfold nV;rw [if_pos (by omega)];exact h0
theorem gU (l:List Int) (a:Nat) (n:Int) (hl:l.length<=4000) (hn:n<=1000000):
 Fn Tryz.prog 51 [.ptr 0 0,I n] [dO l a] (I (nV l a n)) [dO l (nN l a n)] []:=by
 refine Fn.aO aiQ (by simp) ?_
 unfold Qe SC.mk'
 simp only [go_sem]
 refine bD (fun h1=> ?_) (fun h1=> ?_)
 ·have e:n<1:=by simpa using h1
  unfold nV nN
  simp only [if_pos e,h1,go_sem]
  exact Fin.mR _ rfl rfl rfl rfl rfl rfl rfl
 ·have e:¬ n<1:=by simpa using h1
  simp only [h1,go_sem]
  refine eB (b:=0) (aj7 l a hl) ⟨rfl,trivial⟩ rfl rfl rfl rfl ?_
  have ht:=MW (x:=om l a) (show 0<n by omega)
  simp only [go_sem]
  refine ⟨by omega,bD (fun h2=> ?_) (fun h2=> ?_)⟩
  ·have e2:(om l a).tmod n<0:=by simpa using h2
   unfold nV nN
   simp only [if_neg e,if_pos e2,h2,bF (n:=(om l a).tmod n+n) (by omega),go_sem]
   exact Fin.mR _ rfl rfl rfl rfl rfl rfl rfl
  ·have e2:¬ (om l a).tmod n<0:=by simpa using h2
   unfold nV nN
   simp only [if_neg e,if_neg e2,h2,go_sem]
   exact Fin.mR _ rfl rfl rfl rfl rfl rfl rfl
def fe (l:List Int) (a:Nat) (lo hi:Int):Int:=lo+nV l a (hi - lo+1)
def eF (l:List Int) (a:Nat) (lo hi:Int):Nat:=nN l a (hi - lo+1)
theorem Dp (l:List Int) (a:Nat) (lo hi:Int):lo<=fe l a lo hi:=by have:=oq l a (hi - lo+1);unfold fe;omega
theorem wH (l:List Int) (a:Nat) {lo hi:Int} (h:lo<=hi):fe l a lo hi<=hi:=by have:=ou l a (n:=hi - lo+1) (by omega);unfold fe;omega
theorem kY (l:List Int) (a:Nat) (lo hi:Int) (hl:l.length<=4000) (h1: -100000<=lo/\lo<=100000) (h2: -100000<=hi/\hi<=100000):
 Fn Tryz.prog 50 [.ptr 0 0,I lo,I hi] [dO l a] (I (fe l a lo hi)) [dO l (eF l a lo hi)] []:=by
 refine Fn.aO aiP (by simp) ?_
 unfold Qd SC.mk'
 simp only [bF (n:=hi - lo) (by omega),bF (n:=hi - lo+1) (by omega),go_sem]
 refine eB (b:=0) (gU l a (hi - lo+1) hl (by omega)) ⟨rfl,⟨rfl,rfl⟩,trivial⟩ rfl rfl rfl rfl ?_
 have h3:=oq l a (hi - lo+1)
 have h4:=aj9 l a (n:=hi - lo+1) (m:=300000) (by omega) (by omega)
 simp only [bF (n:=lo+nV l a (hi - lo+1)) (by omega),go_sem]
 exact Fin.mR _ rfl rfl rfl rfl rfl rfl rfl
theorem fn7 (l:List Int):Fn Tryz.prog 7 [.sl 1 (encI l)] [] (.ptr 4 0) [] [.box (dO (l.take 4000) 0)]:=by
 refine Fn.aO ok7 (by simp) ?_
 unfold s7 SC.mk'
 simp only [go_sem]
 refine bD (fun h1=> ?_) (fun h1=> ?_)
 ·have e:(4000:Int)<l.length:=by simpa using h1
  have e2:List.drop ((0:Nat):Int).toNat (List.take (Int.toNat 4000) (encI l))=encI (l.take 4000):=by rw [aj4];rfl
  simp only [h1,e2,go_sem]
  refine ⟨⟨by omega,by omega,by omega⟩,⟨[(4,80)],[],_,rfl,rfl,?_,?_,?_⟩⟩
  ·simp only [cO,outs,gq,dB,List.map_nil,List.nil_append,bK,au,rv,dO,go_sem]
   trivial
  ·simp only [gY]
  ·simp only [ay,rv,go_sem]
 ·have e:¬ (4000:Int)<l.length:=by simpa using h1
  have e2:l.take 4000=l:=List.take_of_length_le (by omega)
  simp only [h1,e2,go_sem]
  refine ⟨[(4,56)],[],_,rfl,rfl,?_,?_,?_⟩
  ·simp only [cO,outs,gq,dB,List.map_nil,List.nil_append,bK,au,rv,dO,go_sem]
   trivial
  ·simp only [gY]
  ·simp only [ay,rv,go_sem]
def ow (l:List Int) (a:Nat):Nat->Nat
 |0=>a
 |j+1=>nN l (ow l a j) 3
def yw (l:List Int) (a j:Nat):Int:=97+nV l (ow l a j) 3
def lH (l:List Int) (a n j:Nat):List (List AV):=(List.range n).map fun k=>[.v (.int .u8 (if k<j then yw l a k else 0))]
def Vz (l:List Int) (a n:Nat):ByteArray:=⟨((List.range n).map fun k=>(yw l a k).toNat.toUInt8).toArray⟩
theorem VA (l:List Int) (a n j:Nat):(lH l a n j).length=n:=by simp [lH]
theorem akb (l:List Int) (a n:Nat):List.replicate n [AV.v (.int .u8 0)]=lH l a n 0:=by
 refine List.ext_getElem (by simp [lH]) fun i h1 h2=>by simp [lH]
theorem akc (l:List Int) (a n j:Nat):(lH l a n j).set j [.v (.int .u8 (yw l a j))]=lH l a n (j+1):=by
 refine List.ext_getElem (by simp [lH]) fun i h1 h2=> ?_
 simp only [lH,List.getElem_set,List.getElem_map,List.getElem_range]
 by_cases e:j=i
 ·subst e;simp
 ·rw [if_neg e]
  have:(i<j)=(i<j+1):=by simp only [eq_iff_iff];omega
  simp only [this]
theorem abK (f:Nat->Int):∀ ks:List Nat,rQ (ks.map fun k=>[.v (.int .u8 (f k))])=some (ks.map fun k=>(f k).toNat.toUInt8)
 |[]=>rfl
 |k::ks=>by simp only [List.map_cons,rQ,abK f ks]
theorem akd (l:List Int) (a n:Nat):bytesOf (lH l a n n)=some (Vz l a n):=by
 have e:lH l a n n=(List.range n).map fun k=>[.v (.int .u8 (yw l a k))]:=by
  refine List.map_congr_left fun k hk=> ?_
  rw [if_pos (List.mem_range.1 hk)]
 rw [e]
 simp only [bytesOf,abK (yw l a)]
 rfl
theorem ake (l:List Int) (a n j:Nat) (h:j<n):∃ z,nth (lH l a n j) j=[.v (.int .u8 z)]:=⟨_,by simp [nth,lH,h];rfl⟩
theorem akf (l:List Int) (a:Nat) (hl:l.length<=4000):
 Fn Tryz.prog 88 [.ptr 0 0] [dO l a] (.v (.string (Vz l (nN l a 4) (nV l a 4).toNat))) [dO l (ow l (nN l a 4) (nV l a 4).toNat)] []:=by
 refine Fn.aO aiX (by simp) ?_
 unfold Qn SC.mk'
 simp only [go_sem]
 refine eB (b:=0) (gU l a 4 hl (by omega)) ⟨rfl,⟨rfl,rfl⟩,trivial⟩ rfl rfl rfl rfl ?_
 have h0:=oq l a 4
 have h1:=ou l a (n:=4) (by omega)
 obtain ⟨n,hn⟩:∃ n:Nat,nV l a 4=(n:Int):=⟨(nV l a 4).toNat,by omega⟩
 have hn3:n<=3:=by omega
 simp only [hn,Int.toNat_natCast,List.map_cons,List.map_nil,akb l (nN l a 4) n,go_sem]
 refine ⟨⟨by omega,by omega,by omega⟩,?_⟩
 refine go_loop (fun j:{j:Nat // j<=n}=>⟨1000,[(0,.ptr 0 0),(3,.own 32 1 0 n),(4,I j.1)],[(0,.box (dO l (ow l (nN l a 4) j.1))),(32,.row 5 1 (lH l (nN l a 4) n j.1))]⟩) (fun j=>n - j.1) ⟨0,by omega⟩
  (Wk.mk [(0,0),(32,32)] [] rfl rfl (by simp only [cO,bK,au,rv,ow,go_sem]) (by simp only [go_sem]) (by simp only [rv,ow,go_sem];rfl)) ?_
 intro j B hB
 simp only [go_sem]
 refine bD (fun h2=> ?_) (fun h2=> ?_)<;>simp only [h2,go_sem]
 ·have e1:j.1<n:=by simp only [decide_eq_true_eq] at h2;omega
  refine eB (b:=0) (gU l (ow l (nN l a 4) j.1) 3 hl (by omega)) ⟨rfl,⟨rfl,rfl⟩,trivial⟩ rfl rfl rfl rfl ?_
  obtain ⟨z,hz⟩:=ake l (nN l a 4) n j.1 e1
  have h5:=oq l (ow l (nN l a 4) j.1) 3
  have h6:=ou l (ow l (nN l a 4) j.1) (n:=3) (by omega)
  have h7:IntKind.u8.wrap (97+nV l (ow l (nN l a 4) j.1) 3)=yw l (nN l a 4) j.1:=by rw [IntKind.wrap_u8];unfold yw;omega
  simp only [bF (n:=97+nV l (ow l (nN l a 4) j.1) 3) (by omega),h7,bQ (show j.1<=100000 by omega),Int.toNat_natCast,hz,VA,List.drop_one,List.tail_cons,akc,go_sem]
  refine ⟨⟨by omega,by omega⟩,e1,?_⟩
  exact hB _ ⟨j.1+1,e1⟩ (by simp only;omega) (Wk.mk [(0,0),(32,32)] [] rfl rfl (by simp only [cO,bK,au,rv,ow,go_sem]) (by simp only [go_sem]) (by simp only [rv,go_sem]))
 ·have e1:j.1=n:=by have:=j.2;simp only [decide_eq_false_iff_not] at h2;omega
  have h8:List.take n (lH l (nN l a 4) n n)=lH l (nN l a 4) n n:=List.take_of_length_le (by rw [VA];omega)
  have h9:=akd l (nN l a 4) n
  simp only [bytesOf] at h9
  simp only [e1,h8,h9,VA,go_sem]
  refine ⟨by omega,Fin.mR _ rfl rfl rfl rfl rfl rfl ?_⟩
  simp only [ay]
def JS (r lo hi:Int):Int:=if r<0 then 0 else if 65536<=r then 0 else if lo<0 then 0 else if 65536<=hi then 0 else if hi<lo then 0 else if lo<=r then if r<=hi then r else lo+r.tmod (hi - lo+1) else lo+r.tmod (hi - lo+1)
theorem abL (r lo hi:Int):Fn Tryz.prog 325 [I r,I lo,I hi] [] (I (JS r lo hi)) [] []:=by
 refine Fn.aO RU (by simp) ?_
 unfold RS SC.mk' JS
 simp only [go_sem]
 by_cases h1:r<0
 ·simp only [h1,if_true,decide_true,go_sem]
  exact Fin.bI _ rfl rfl rfl rfl
 by_cases h2:65536<=r
 ·simp only [h1,h2,if_true,if_false,decide_true,decide_false,go_sem]
  exact Fin.bI _ rfl rfl rfl rfl
 by_cases h3:lo<0
 ·simp only [h1,h2,h3,if_true,if_false,decide_true,decide_false,go_sem]
  exact Fin.bI _ rfl rfl rfl rfl
 by_cases h4:65536<=hi
 ·simp only [h1,h2,h3,h4,if_true,if_false,decide_true,decide_false,go_sem]
  exact Fin.bI _ rfl rfl rfl rfl
 by_cases h5:hi<lo
 ·simp only [h1,h2,h3,h4,h5,if_true,if_false,decide_true,decide_false,go_sem]
  exact Fin.bI _ rfl rfl rfl rfl
 have ht:=MW (x:=r) (show 0<hi - lo+1 by omega)
 have ht':=Int.tmod_nonneg (hi - lo+1) (show 0<=r by omega)
 by_cases h6:lo<=r
 ·by_cases h7:r<=hi
  ·simp only [h1,h2,h3,h4,h5,h6,h7,if_true,if_false,decide_true,decide_false,go_sem]
   exact Fin.bI _ rfl rfl rfl rfl
  ·simp only [h1,h2,h3,h4,h5,h6,h7,if_true,if_false,decide_true,decide_false,bF (n:=hi - lo) (by omega),bF (n:=hi - lo+1) (by omega),bF (n:=lo+r.tmod (hi - lo+1)) (by omega),go_sem]
   exact ⟨by omega,Fin.bI _ rfl rfl rfl rfl⟩
 ·simp only [h1,h2,h3,h4,h5,h6,if_true,if_false,decide_true,decide_false,bF (n:=hi - lo) (by omega),bF (n:=hi - lo+1) (by omega),bF (n:=lo+r.tmod (hi - lo+1)) (by omega),go_sem]
  exact ⟨by omega,Fin.bI _ rfl rfl rfl rfl⟩
end Go.Eng
