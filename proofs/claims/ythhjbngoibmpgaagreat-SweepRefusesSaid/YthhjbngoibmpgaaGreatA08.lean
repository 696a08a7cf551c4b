/-
  Part of a proof: lemmas and definitions of this work.
  No condition.
-/
import Derived.Test.YthhjbngoibmpgaaGreatA04
import Derived.Test.YthhjbngoibmpgaaGreatA07
set_option linter.all false
set_option maxRecDepth 100000
set_option maxHeartbeats 8000000
namespace Go.Eng
open Go
theorem ah {a b:Prop} (x:a) (y:b):a/\b:=⟨x,y⟩
section
variable {P:Program} {f:FuncId} {xs ys:List AV} {r:AV} {h:List (Nat×Ob)} {nm:Nat} {k:List It} {Q:Exit->St->Prop} {n n':Nat} {t:List (Nat×AV)} {d:Option Nat} {l ops:List aG} {acc:List bQ}
theorem sC (hk:go P (.ops (nm+8) n' l::k) Q n (bP t d r) h) (hF:Fn P f xs [] r [] []:=by assumption) (hp:dx xs=true:=by rfl) (hr:r.pure=true:=by rfl):nW P nm f xs d n' l k Q n t h:=aQ hF hp hr hk
theorem sD (hk:go P (.cO (nm+8) n' l ops (([],[])::acc)::k) Q n (bP t d r) h) (hF:Fn P f xs [] r [] []:=by assumption) (hp:dx xs=true:=by rfl) (hr:r.pure=true:=by rfl):nY P nm f xs d n' l ops acc k Q n t h:=bX hF hp hr hk
theorem sZ (hk:go P (.ops (nm+8) n' l::k) Q n (bP t d r) (kills (dF ys)++h)) (hF:Fn P f xs [] r [] []:=by assumption) (ha:au h [] [] xs ys:=by ((try simp only [au,rv,hJ,go_sem])<;>(try simp [encI,rv,au,get])<;>rfl)) (hz:pM h (dF ys)=true:=by rfl) (hp:dx xs=true:=by rfl) (hr:r.pure=true:=by rfl):nW P nm f ys d n' l k Q n t h:=jk hF ha hz hp hr hk
theorem sY (hk:go P (.cO (nm+8) n' l ops ((dF ys,(kills (dF ys)).map Prod.fst)::acc)::k) Q n (bP t d r) (kills (dF ys)++h)) (hF:Fn P f xs [] r [] []:=by assumption) (ha:au h [] [] xs ys:=by ((try simp only [au,rv,hJ,go_sem])<;>(try simp [encI,rv,au,get])<;>rfl)) (hz:pM h (dF ys)=true:=by rfl) (hp:dx xs=true:=by rfl) (hr:r.pure=true:=by rfl):nY P nm f ys d n' l ops acc k Q n t h:=Cm hF ha hz hp hr hk
theorem sF {B:List Nat} (hk:go P k Q n (uo h [] t) (rY h B)) (hB:gy [] h=B:=by simp only [go_sem];rfl) (hn:Cs n B=true:=by rfl) (hp:Ah h B/\vU h [] t:=by (simp only [go_sem]<;>first|trivial|omega|(simp<;>omega))):vS P k Q n t h:=Ak hB hn hp hk
theorem sM {res:List iJ} {r:AV} {t:List (Nat×AV)} {xs:List AV} (h3:rv h [] [] r (ay xs)) (h1:jO t h res=some xs:=by rfl) (h2:iD h [] [] []=true:=by rfl):Fin res r [] [] t h:=Fin.aD xs h1 h2 h3
end
theorem bn {A B:Prop} (k:B) (h:A:=by first|exact ⟨by omega,by omega⟩|rfl|omega|exact ⟨by omega,by omega,by omega⟩):A/\B:=⟨h,k⟩
theorem wk {s s':St} (S:List (Nat×Nat)) (N:List Nat) (hS:iD s.h S N s'.h=true:=by rfl) (hn:(S.map Prod.fst++N).all (fun k=>decide (k<s'.n))=true:=by rfl)
 (hH:cZ s.h S N s'.h S:=by (simp only [cZ,bO,au,rv,go_sem]<;>try simp)) (hN:gY s'.h N:=by (simp only [gY,go_sem]<;>try simp [encI])) (hT:eG s.h S N s.t s'.t:=by (simp only [eG,rv,au,go_sem]<;>try simp)):Wk s s':=Wk.mk S N hS hn hH hN hT
theorem fz {G:Prop} (h:G:=by (subst hR;first|rfl|simp_all [rv,au,get,av.enter,aj.enc,av.enc,Task.enc,Ev.enc,bD.enc,bf.enc,cB.enc,Dead.enc,Dir.enc,ak.enc,Walk.enc,aV.enc,aJ.enc,-Int.not_lt,-Int.not_le]<;>try rfl)):G:=h
theorem aX {G:Prop} (h:G:=by
 repeat' first
  |(first|refine sC ?_|refine sD ?_|refine sZ ?_|refine sY ?_|refine sF ?_);simp only [go_sem]
  |(first|refine bC (fun hq=> ?_) (fun hq=> ?_)|refine dR (fun hq=> ?_) (fun hq=> ?_)|refine dD (fun hq=> ?_) (fun hq=> ?_))<;>simp only [hq,go_sem]
  |refine sM ?_;simp only [ay,rv,au,get,go_sem]
  |refine bn ?_
  |fail
 all_goals ((try clear aK);(try clear aU);(try clear bK);(try clear dV);(try clear fQ);(try clear mR);(try clear hgo);(try clear hrl);(try clear hel);(try clear hpl);(try clear htk);(try clear hdc);(try clear hse);(try clear hho);(try clear hsp);(try clear hst);(try clear hre);(try clear hro))
 all_goals first|rfl|((try subst hR);first|rfl|(simp_all [rv,au,get,ay,aj.enc,av.enc,Task.enc,Ev.enc,bD.enc,bf.enc,cB.enc,Dead.enc,Dir.enc,ak.enc,Walk.enc,aV.enc,aJ.enc,-Int.not_lt,-Int.not_le]<;>rfl)|(simp_all [rv,au,get,ay,aj.enc,av.enc,Task.enc,Ev.enc,bD.enc,bf.enc,cB.enc,Dead.enc,Dir.enc,ak.enc,Walk.enc,aV.enc,aJ.enc,av.enter,Task.jS,cK.enc,dN,Task.ev,encI,bL.enc,av.bg,Setup.enc,aH.enc,ai.enc,bG.enc,-Int.not_lt,-Int.not_le]<;>rfl))):G:=h
theorem aZ {G:Prop} (h:G:=by
 repeat' first
  |(first|refine sC ?_|refine sD ?_|refine sZ ?_|refine sY ?_|refine sZ ?_ aK|refine sY ?_ aK|refine sZ ?_ aU|refine sY ?_ aU|refine sZ ?_ bK|refine sY ?_ bK|refine sZ ?_ dV|refine sY ?_ dV|refine sZ ?_ fQ|refine sY ?_ fQ|refine sF ?_);simp only [hJ,go_sem]
  |(first|refine bC (fun hq=> ?_) (fun hq=> ?_)|refine dR (fun hq=> ?_) (fun hq=> ?_)|refine dD (fun hq=> ?_) (fun hq=> ?_))<;>simp only [hq,hJ,go_sem]
  |refine sM ?_;simp only [ay,rv,au,get,hJ,go_sem]
  |refine bn ?_
  |fail
 all_goals ((try clear hJ);(try clear aK);(try clear aU);(try clear bK);(try clear dV);(try clear fQ);(try clear mR);(try clear hgo);(try clear hrl);(try clear hel);(try clear hpl);(try clear htk);(try clear hdc);(try clear hse);(try clear hho);(try clear hsp);(try clear hst);(try clear hre);(try clear hro))
 all_goals first|rfl|((try subst hR);first|rfl|(simp_all [rv,au,get,ay,aj.enc,av.enc,Task.enc,Ev.enc,bD.enc,bf.enc,cB.enc,Dead.enc,Dir.enc,ak.enc,Walk.enc,aV.enc,aJ.enc,-Int.not_lt,-Int.not_le]<;>rfl)|(simp_all [rv,au,get,ay,aj.enc,av.enc,Task.enc,Ev.enc,bD.enc,bf.enc,cB.enc,Dead.enc,Dir.enc,ak.enc,Walk.enc,aV.enc,aJ.enc,av.enter,Task.jS,cK.enc,dN,Task.ev,encI,bL.enc,av.bg,Setup.enc,aH.enc,ai.enc,bG.enc,-Int.not_lt,-Int.not_le]<;>rfl))):G:=h
theorem aY {G:Prop} (h:G:=by
 repeat' first
  |(first|refine sC ?_|refine sD ?_|refine sZ ?_|refine sY ?_|refine sZ ?_ aK|refine sY ?_ aK|refine sZ ?_ aU|refine sY ?_ aU|refine sZ ?_ bK|refine sY ?_ bK|refine sZ ?_ dV|refine sY ?_ dV|refine sZ ?_ fQ|refine sY ?_ fQ|refine sF ?_);simp only [hJ,go_sem]
  |(first|refine bC (fun hq=> ?_) (fun hq=> ?_)|refine dR (fun hq=> ?_) (fun hq=> ?_)|refine dD (fun hq=> ?_) (fun hq=> ?_))<;>simp only [hq,hJ,go_sem]
  |refine sM ?_;simp only [ay,rv,au,get,hJ,go_sem]
  |refine bn ?_
  |fail
 all_goals ((try clear hJ);(try clear aK);(try clear aU);(try clear bK);(try clear dV);(try clear fQ);(try clear mR);(try clear hgo);(try clear hrl);(try clear hel);(try clear hpl);(try clear htk);(try clear hdc);(try clear hse);(try clear hho);(try clear hsp);(try clear hst);(try clear hre);(try clear hro);(try clear ld);(try clear h1);(try clear h2);(try clear hld);(try clear MS);(try clear q1);(try clear q2);(try clear q1'))
 all_goals first|rfl|((try subst hR);first|rfl|(simp_all [rv,au,get,ay,aj.enc,av.enc,Task.enc,Ev.enc,bD.enc,bf.enc,cB.enc,Dead.enc,Dir.enc,ak.enc,Walk.enc,aV.enc,aJ.enc,-Int.not_lt,-Int.not_le]<;>rfl)|(simp_all [rv,au,get,ay,aj.enc,av.enc,Task.enc,Ev.enc,bD.enc,bf.enc,cB.enc,Dead.enc,Dir.enc,ak.enc,Walk.enc,aV.enc,aJ.enc,av.enter,Task.jS,cK.enc,dN,Task.ev,encI,bL.enc,av.bg,Setup.enc,aH.enc,ai.enc,bG.enc,-Int.not_lt,-Int.not_le]<;>rfl))):G:=h
end Go.Eng
namespace Go.Eng
open Go
abbrev I (n:Int):AV:= .v (.int .i64 n)
abbrev B8 (b:UInt8):AV:= .v (.int .u8 b.toNat)
abbrev Bo (b:Bool):AV:= .v (.bool b)
abbrev Nl:AV:= .v (.slice none 0 0)
abbrev Z:AV:= .v (.int .i64 0)
def encI (l:List Int):List (List AV):=l.map fun z=>[I z]
def encS (l:List ByteArray):List (List AV):=l.map fun z=>[.v (.string z)]
def dL (b:List UInt8):List (List AV):=b.map fun x=>[B8 x]
abbrev gK (b:List UInt8):AV:= .sl 1 (dL b)
def bW (l:List (List UInt8)):List (List AV):=l.map fun b=>[gK b]
theorem bE {n:Int} (h: -9223372036854775808<=n/\n<=9223372036854775807):IntKind.i64.wrap n=n:=by
 rw [IntKind.wrap_i64];omega
structure ai where
 id:Int
 route:Int
 epoch:Int
 count:Int
 gen:Int
 sent:Int
 body:ByteArray
def ai.enc (x:ai):List AV:=[I x.id,I x.route,I x.epoch,I x.count,I x.gen,I x.sent,.v (.string x.body)]
abbrev ai.z:ai:=⟨0,0,0,0,0,0,⟨#[]⟩⟩
theorem ai.fU (x:ai):x.enc.length=7:=rfl
@[go_sem] theorem ai.gP (x:ai):eP x.enc=[]:=rfl
structure Ring where
 cells:List ai
 head:Int
 size:Int
def Ring.enc (x:Ring):List AV:=[.sl 7 (x.cells.map ai.enc),I x.head,I x.size]
abbrev Ring.z:Ring:=⟨[],0,0⟩
theorem Ring.fU (x:Ring):x.enc.length=3:=rfl
@[go_sem] theorem Ring.gP (x:Ring):eP x.enc=[]:=rfl
structure Due where
 dl:Int
 id:Int
def Due.enc (x:Due):List AV:=[I x.dl,I x.id]
abbrev Due.z:Due:=⟨0,0⟩
theorem Due.fU (x:Due):x.enc.length=2:=rfl
@[go_sem] theorem Due.gP (x:Due):eP x.enc=[]:=rfl
structure Lease where
 msg:ai
 dl:Int
def Lease.enc (x:Lease):List AV:=[I x.msg.id,I x.msg.route,I x.msg.epoch,I x.msg.count,I x.msg.gen,I x.msg.sent,.v (.string x.msg.body),I x.dl]
abbrev Lease.z:Lease:=⟨ai.z,0⟩
theorem Lease.fU (x:Lease):x.enc.length=8:=rfl
@[go_sem] theorem Lease.gP (x:Lease):eP x.enc=[]:=rfl
structure Table where
 l:List Lease
 heap:List Due
def Table.enc (x:Table):List AV:=[.sl 8 (x.l.map Lease.enc),.sl 2 (x.heap.map Due.enc)]
abbrev Table.z:Table:=⟨[],[]⟩
theorem Table.fU (x:Table):x.enc.length=2:=rfl
@[go_sem] theorem Table.gP (x:Table):eP x.enc=[]:=rfl
structure ak where
 live:Bool
 low:Int
 high:Int
 ready:Ring
 aR:Table
def ak.enc (x:ak):List AV:=[Bo x.live,I x.low,I x.high,.sl 7 (x.ready.cells.map ai.enc),I x.ready.head,I x.ready.size,.sl 8 (x.aR.l.map Lease.enc),.sl 2 (x.aR.heap.map Due.enc)]
abbrev ak.z:ak:=⟨false,0,0,Ring.z,Table.z⟩
theorem ak.fU (x:ak):x.enc.length=8:=rfl
@[go_sem] theorem ak.gP (x:ak):eP x.enc=[]:=rfl
structure Dead where
 cap:Int
 l:List ai
def Dead.enc (x:Dead):List AV:=[I x.cap,.sl 7 (x.l.map ai.enc)]
abbrev Dead.z:Dead:=⟨0,[]⟩
theorem Dead.fU (x:Dead):x.enc.length=2:=rfl
@[go_sem] theorem Dead.gP (x:Dead):eP x.enc=[]:=rfl
structure Hd where
 id:Int
 gen:Int
 route:Int
 hint:Int
def Hd.enc (x:Hd):List AV:=[I x.id,I x.gen,I x.route,I x.hint]
abbrev Hd.z:Hd:=⟨0,0,0,0⟩
theorem Hd.fU (x:Hd):x.enc.length=4:=rfl
@[go_sem] theorem Hd.gP (x:Hd):eP x.enc=[]:=rfl
structure Span where
 low:Int
 high:Int
 eT:Int
def Span.enc (x:Span):List AV:=[I x.low,I x.high,I x.eT]
abbrev Span.z:Span:=⟨0,0,0⟩
theorem Span.fU (x:Span):x.enc.length=3:=rfl
@[go_sem] theorem Span.gP (x:Span):eP x.enc=[]:=rfl
structure Dir where
 version:Int
 l:List Span
 aM:List Int
def Dir.enc (x:Dir):List AV:=[I x.version,.sl 3 (x.l.map Span.enc),.sl 1 (encI x.aM)]
abbrev Dir.z:Dir:=⟨0,[],[]⟩
theorem Dir.fU (x:Dir):x.enc.length=3:=rfl
@[go_sem] theorem Dir.gP (x:Dir):eP x.enc=[]:=rfl
structure bL where
 kind:Int
 bq:Int
 to:Int
 mid:Int
def bL.enc (x:bL):List AV:=[I x.kind,I x.bq,I x.to,I x.mid]
abbrev bL.z:bL:=⟨0,0,0,0⟩
theorem bL.fU (x:bL):x.enc.length=4:=rfl
@[go_sem] theorem bL.gP (x:bL):eP x.enc=[]:=rfl
structure aJ where
 seq:Int
 epoch:Int
 ready:Int
 eF:Int
def aJ.enc (x:aJ):List AV:=[I x.seq,I x.epoch,I x.ready,I x.eF]
abbrev aJ.z:aJ:=⟨0,0,0,0⟩
theorem aJ.fU (x:aJ):x.enc.length=4:=rfl
@[go_sem] theorem aJ.gP (x:aJ):eP x.enc=[]:=rfl
structure Slot where
 owner:Int
 eT:ak
def Slot.enc (x:Slot):List AV:=[I x.owner,Bo x.eT.live,I x.eT.low,I x.eT.high,.sl 7 (x.eT.ready.cells.map ai.enc),I x.eT.ready.head,I x.eT.ready.size,.sl 8 (x.eT.aR.l.map Lease.enc),.sl 2 (x.eT.aR.heap.map Due.enc)]
abbrev Slot.z:Slot:=⟨0,ak.z⟩
theorem Slot.fU (x:Slot):x.enc.length=9:=rfl
@[go_sem] theorem Slot.gP (x:Slot):eP x.enc=[]:=rfl
structure qP where
 owner:Int
 dead:Dead
def qP.enc (x:qP):List AV:=[I x.owner,I x.dead.cap,.sl 7 (x.dead.l.map ai.enc)]
abbrev qP.z:qP:=⟨0,Dead.z⟩
theorem qP.fU (x:qP):x.enc.length=3:=rfl
@[go_sem] theorem qP.gP (x:qP):eP x.enc=[]:=rfl
structure aj where
 slots:List Slot
 bU:List aJ
 dead:qP
 dir:Dir
 epoch:Int
 clock:Int
 fB:Int
def aj.enc (x:aj):List AV:=[.sl 9 (x.slots.map Slot.enc),.sl 4 (x.bU.map aJ.enc),I x.dead.owner,I x.dead.dead.cap,.sl 7 (x.dead.dead.l.map ai.enc),I x.dir.version,.sl 3 (x.dir.l.map Span.enc),.sl 1 (encI x.dir.aM),I x.epoch,I x.clock,I x.fB]
abbrev aj.z:aj:=⟨[],[],qP.z,Dir.z,0,0,0⟩
theorem aj.fU (x:aj):x.enc.length=11:=rfl
@[go_sem] theorem aj.gP (x:aj):eP x.enc=[]:=rfl
structure Setup where
 slots:Int
 live:Int
 capacity:Int
 dead:Int
 limit:Int
 clock:Int
 fB:Int
 epoch:Int
def Setup.enc (x:Setup):List AV:=[I x.slots,I x.live,I x.capacity,I x.dead,I x.limit,I x.clock,I x.fB,I x.epoch]
abbrev Setup.z:Setup:=⟨0,0,0,0,0,0,0,0⟩
theorem Setup.fU (x:Setup):x.enc.length=8:=rfl
@[go_sem] theorem Setup.gP (x:Setup):eP x.enc=[]:=rfl
structure bf where
 cells:List Int
 phase:Int
 got:Int
 tries:Int
 wait:Int
def bf.enc (x:bf):List AV:=[.sl 1 (encI x.cells),I x.phase,I x.got,I x.tries,I x.wait]
abbrev bf.z:bf:=⟨[],0,0,0,0⟩
theorem bf.fU (x:bf):x.enc.length=5:=rfl
@[go_sem] theorem bf.gP (x:bf):eP x.enc=[]:=rfl
structure cB where
 phase:Int
 epoch:Int
 clock:Int
 stamp:Int
def cB.enc (x:cB):List AV:=[I x.phase,I x.epoch,I x.clock,I x.stamp]
abbrev cB.z:cB:=⟨0,0,0,0⟩
theorem cB.fU (x:cB):x.enc.length=4:=rfl
@[go_sem] theorem cB.gP (x:cB):eP x.enc=[]:=rfl
structure bD where
 aN:List ak
 dead:Dead
 order:List Int
 carry:List ai
 dO:List bL
def bD.enc (x:bD):List AV:=[.sl 8 (x.aN.map ak.enc),I x.dead.cap,.sl 7 (x.dead.l.map ai.enc),.sl 1 (encI x.order),.sl 7 (x.carry.map ai.enc),.sl 4 (x.dO.map bL.enc)]
abbrev bD.z:bD:=⟨[],Dead.z,[],[],[]⟩
theorem bD.fU (x:bD):x.enc.length=6:=rfl
@[go_sem] theorem bD.gP (x:bD):eP x.enc=[]:=rfl
structure av where
 phase:Int
 at_:Int
 lock:bf
 aI:cB
 aN:List ak
 dead:Dead
 bU:List aJ
 dir:Dir
 out:bD
 limit:Int
 carry:List ai
def av.enc (x:av):List AV:=[I x.phase,I x.at_,.sl 1 (encI x.lock.cells),I x.lock.phase,I x.lock.got,I x.lock.tries,I x.lock.wait,I x.aI.phase,I x.aI.epoch,I x.aI.clock,I x.aI.stamp,.sl 8 (x.aN.map ak.enc),I x.dead.cap,.sl 7 (x.dead.l.map ai.enc),.sl 4 (x.bU.map aJ.enc),I x.dir.version,.sl 3 (x.dir.l.map Span.enc),.sl 1 (encI x.dir.aM),.sl 8 (x.out.aN.map ak.enc),I x.out.dead.cap,.sl 7 (x.out.dead.l.map ai.enc),.sl 1 (encI x.out.order),.sl 7 (x.out.carry.map ai.enc),.sl 4 (x.out.dO.map bL.enc),I x.limit,.sl 7 (x.carry.map ai.enc)]
abbrev av.z:av:=⟨0,0,bf.z,cB.z,[],Dead.z,[],Dir.z,bD.z,0,[]⟩
theorem av.fU (x:av):x.enc.length=26:=rfl
@[go_sem] theorem av.gP (x:av):eP x.enc=[]:=rfl
structure Walk where
 next:Int
 covered:Int
def Walk.enc (x:Walk):List AV:=[I x.next,I x.covered]
abbrev Walk.z:Walk:=⟨0,0⟩
theorem Walk.fU (x:Walk):x.enc.length=2:=rfl
@[go_sem] theorem Walk.gP (x:Walk):eP x.enc=[]:=rfl
structure bM where
 kind:Int
 home:Int
 max_:Int
 bB:Int
 bq:Int
 to:Int
 bodies:List ByteArray
 tokens:List (List UInt8)
def bM.enc (x:bM):List AV:=[I x.kind,I x.home,I x.max_,I x.bB,I x.bq,I x.to,.sl 1 (encS x.bodies),.sl 1 (bW x.tokens)]
abbrev bM.z:bM:=⟨0,0,0,0,0,0,[],[]⟩
theorem bM.fU (x:bM):x.enc.length=8:=rfl
@[go_sem] theorem bM.gP (x:bM):eP x.enc=[]:=rfl
structure aV where
 err:Int
 id:Int
 tokens:List (List UInt8)
 bodies:List ByteArray
 ready:Int
 eF:Int
 moved:Int
def aV.enc (x:aV):List AV:=[I x.err,I x.id,.sl 1 (bW x.tokens),.sl 1 (encS x.bodies),I x.ready,I x.eF,I x.moved]
abbrev aV.z:aV:=⟨0,0,[],[],0,0,0⟩
theorem aV.fU (x:aV):x.enc.length=7:=rfl
@[go_sem] theorem aV.gP (x:aV):eP x.enc=[]:=rfl
structure cK where
 id:Int
 gen:Int
 route:Int
 dl:Int
def cK.enc (x:cK):List AV:=[I x.id,I x.gen,I x.route,I x.dl]
abbrev cK.z:cK:=⟨0,0,0,0⟩
theorem cK.fU (x:cK):x.enc.length=4:=rfl
@[go_sem] theorem cK.gP (x:cK):eP x.enc=[]:=rfl
structure Ev where
 stamp:Int
 task:Int
 entry:Int
 kind:Int
 now:Int
 epoch:Int
 err:Int
 l:List cK
 ready:Int
 eF:Int
def Ev.enc (x:Ev):List AV:=[I x.stamp,I x.task,I x.entry,I x.kind,I x.now,I x.epoch,I x.err,.sl 4 (x.l.map cK.enc),I x.ready,I x.eF]
abbrev Ev.z:Ev:=⟨0,0,0,0,0,0,0,[],0,0⟩
theorem Ev.fU (x:Ev):x.enc.length=10:=rfl
@[go_sem] theorem Ev.gP (x:Ev):eP x.enc=[]:=rfl
structure Task where
 number:Int
 inv:bM
 invoked:Int
 dn:Bool
 ended:Int
 pc:Int
 entry:Int
 results:List aV
 setup:Setup
 sec:av
 dir:Dir
 walk:Walk
 slot:Int
 id:Int
 hnd:Hd
 loaded:Int
 first:List aJ
 second:List aJ
def Task.enc (x:Task):List AV:=[I x.number,I x.inv.kind,I x.inv.home,I x.inv.max_,I x.inv.bB,I x.inv.bq,I x.inv.to,.sl 1 (encS x.inv.bodies),.sl 1 (bW x.inv.tokens),I x.invoked,Bo x.dn,I x.ended,I x.pc,I x.entry,.sl 7 (x.results.map aV.enc),I x.setup.slots,I x.setup.live,I x.setup.capacity,I x.setup.dead,I x.setup.limit,I x.setup.clock,I x.setup.fB,I x.setup.epoch,I x.sec.phase,I x.sec.at_,.sl 1 (encI x.sec.lock.cells),I x.sec.lock.phase,I x.sec.lock.got,I x.sec.lock.tries,I x.sec.lock.wait,I x.sec.aI.phase,I x.sec.aI.epoch,I x.sec.aI.clock,I x.sec.aI.stamp,.sl 8 (x.sec.aN.map ak.enc),I x.sec.dead.cap,.sl 7 (x.sec.dead.l.map ai.enc),.sl 4 (x.sec.bU.map aJ.enc),I x.sec.dir.version,.sl 3 (x.sec.dir.l.map Span.enc),.sl 1 (encI x.sec.dir.aM),.sl 8 (x.sec.out.aN.map ak.enc),I x.sec.out.dead.cap,.sl 7 (x.sec.out.dead.l.map ai.enc),.sl 1 (encI x.sec.out.order),.sl 7 (x.sec.out.carry.map ai.enc),.sl 4 (x.sec.out.dO.map bL.enc),I x.sec.limit,.sl 7 (x.sec.carry.map ai.enc),I x.dir.version,.sl 3 (x.dir.l.map Span.enc),.sl 1 (encI x.dir.aM),I x.walk.next,I x.walk.covered,I x.slot,I x.id,I x.hnd.id,I x.hnd.gen,I x.hnd.route,I x.hnd.hint,I x.loaded,.sl 4 (x.first.map aJ.enc),.sl 4 (x.second.map aJ.enc)]
abbrev Task.z:Task:=⟨0,bM.z,0,false,0,0,0,[],Setup.z,av.z,Dir.z,Walk.z,0,0,Hd.z,0,[],[]⟩
theorem Task.fU (x:Task):x.enc.length=63:=rfl
@[go_sem] theorem Task.gP (x:Task):eP x.enc=[]:=rfl
structure aH where
 setup:Setup
 arena:aj
 tasks:List Task
 log:List Ev
 steps:Int
 handles:List (List UInt8)
def aH.enc (x:aH):List AV:=[I x.setup.slots,I x.setup.live,I x.setup.capacity,I x.setup.dead,I x.setup.limit,I x.setup.clock,I x.setup.fB,I x.setup.epoch,.sl 9 (x.arena.slots.map Slot.enc),.sl 4 (x.arena.bU.map aJ.enc),I x.arena.dead.owner,I x.arena.dead.dead.cap,.sl 7 (x.arena.dead.dead.l.map ai.enc),I x.arena.dir.version,.sl 3 (x.arena.dir.l.map Span.enc),.sl 1 (encI x.arena.dir.aM),I x.arena.epoch,I x.arena.clock,I x.arena.fB,.sl 63 (x.tasks.map Task.enc),.sl 10 (x.log.map Ev.enc),I x.steps,.sl 1 (bW x.handles)]
abbrev aH.z:aH:=⟨Setup.z,aj.z,[],[],0,[]⟩
theorem aH.fU (x:aH):x.enc.length=23:=rfl
@[go_sem] theorem aH.gP (x:aH):eP x.enc=[]:=rfl
structure dw where
 index:Int
 variant:Int
 raw:List UInt8
def dw.enc (x:dw):List AV:=[I x.index,I x.variant,gK x.raw]
abbrev dw.z:dw:=⟨0,0,[]⟩
theorem dw.fU (x:dw):x.enc.length=3:=rfl
@[go_sem] theorem dw.gP (x:dw):eP x.enc=[]:=rfl
structure bG where
 kind:Int
 pick:Int
 dM:Int
 inv:bM
 refs:List dw
def bG.enc (x:bG):List AV:=[I x.kind,I x.pick,I x.dM,I x.inv.kind,I x.inv.home,I x.inv.max_,I x.inv.bB,I x.inv.bq,I x.inv.to,.sl 1 (encS x.inv.bodies),.sl 1 (bW x.inv.tokens),.sl 3 (x.refs.map dw.enc)]
abbrev bG.z:bG:=⟨0,0,0,bM.z,[]⟩
theorem bG.fU (x:bG):x.enc.length=12:=rfl
@[go_sem] theorem bG.gP (x:bG):eP x.enc=[]:=rfl
theorem aS (l:List Int):(encI l).length=l.length:=by simp [encI]
theorem dY (l:List ByteArray):(encS l).length=l.length:=by simp [encS]
theorem mU (l:List UInt8):(dL l).length=l.length:=by simp [dL]
theorem dZ (l:List (List UInt8)):(bW l).length=l.length:=by simp [bW]
attribute [go_sem] aS dY mU dZ List.length_map
theorem bS {α:Type} (f:α->List AV) (d:α) {l:List α} {k:Nat} (h:k<l.length):nth (l.map f) k=f (l[k]?.getD d):=by
 simp [nth,h]
theorem ajF {l:List Int} {k:Nat} (h:k<l.length):nth (encI l) k=[I (l[k]?.getD 0)]:=by simp [nth,encI,h]
theorem aa6 {l:List ByteArray} {k:Nat} (h:k<l.length):nth (encS l) k=[.v (.string (l[k]?.getD ⟨#[]⟩))]:=by simp [nth,encS,h]
theorem eB {α:Type} (d:α) {l:List α} {i:Nat} (h:i<l.length):l.drop i=l[i]?.getD d::l.drop (i+1):=by
 rw [List.drop_eq_getElem_cons h,List.getElem?_eq_getElem h];rfl
theorem eH {α:Type} {l:List α} {i:Nat} (h:l.length<=i):l.drop i=[]:=List.drop_eq_nil_of_le h
theorem bA {α:Type} {l:List α} {i:Nat} (h:l.length<=i):l.take i=l:=List.take_of_length_le h
theorem ajG (n:Nat):(n+1<=n)=False:=by simp
attribute [go_sem] ajG nR
attribute [go_sem] reduceIte Nat.reduceAdd Nat.reduceMul Nat.reduceSub Nat.reduceEqDiff Nat.reduceLeDiff Nat.reduceLT reduceCtorEq Nat.succ_eq_add_one
attribute [go_sem] cond_true cond_false Bool.false_or Bool.or_false Nat.reduceBEq Nat.reduceBeqDiff
end Go.Eng
namespace Go.Eng
open Go Go.Proofs
theorem aa7 {l:List Int} {k:Nat} (h:k<l.length):nth (encI l) k=[I l[k]]:=by simp [encI,nth,h]
theorem ajH (l:List Int) (k:Nat):(encI l).take k=encI (l.take k):=by simp [encI,List.map_take]
theorem bT {p:Nat} (h:p<=100000):IntKind.i64.wrap ((p:Int)+1)=((p+1:Nat):Int):=by rw [bE (by omega)];omega
theorem ajI {p:Nat} (h:p<=100000):IntKind.i64.wrap (((p+1:Nat):Int) - 1)=(p:Int):=by rw [bE (by omega)];omega
attribute [go_sem] aS
abbrev dU (l:List Int) (a:Nat):List AV:=[.sl 1 (encI l),I a]
def ow (l:List Int) (a:Nat):Int:=l[a]?.getD 0
def MU (l:List Int) (a:Nat):Nat:=if a<l.length then a+1 else a
theorem ajJ {l:List Int} {a:Nat} (h:a<l.length):ow l a=l[a]:=by simp [ow,h]
theorem ajK (l:List Int) (a:Nat) (hl:l.length<=4000):Fn Tryz.prog 70 [.ptr 0 0] [dU l a] (I (ow l a)) [dU l (MU l a)] []:=by
 refine Fn.aO aim (by simp) ?_
 unfold Qu SC.mk'
 simp only [go_sem]
 refine ⟨rfl,bC (fun h1=> ?_) (fun h1=> ?_)⟩<;>simp only [h1,go_sem]
 ·have e1:¬ a<l.length:=by simp only [decide_eq_true_eq] at h1;omega
  refine Fin.mQ _ rfl rfl rfl rfl rfl ?_ ?_
  ·simp only [MU,e1,go_sem]
  ·simp only [ow,List.getElem?_eq_none (show l.length<=a by omega),ay];rfl
 ·have e1:a<l.length:=by simp only [decide_eq_false_iff_not] at h1;omega
  simp only [bT (show a<=100000 by omega),ajI (show a<=100000 by omega),Int.toNat_natCast,aa7 e1,go_sem]
  refine ⟨⟨by omega,by omega⟩,rfl,?_⟩
  refine Fin.mQ _ rfl rfl rfl rfl rfl ?_ ?_
  ·simp only [MU,e1,go_sem]
  ·simp only [ajJ e1,ay]
theorem ajL (l:List Int) (a:Nat):Fn Tryz.prog 111 [.ptr 0 0] [dU l a] (Bo (decide (a<l.length))) [dU l a] []:=by
 refine Fn.aO ait (by simp) ?_
 unfold QY SC.mk'
 simp only [go_sem]
 refine ⟨rfl,?_⟩
 refine Fin.mQ _ rfl rfl rfl rfl rfl rfl ?_
 simp only [ay,Int.ofNat_lt]
theorem MV {x n:Int} (h:0<n): -n<x.tmod n/\x.tmod n<n:=by
 have h1:=Int.tmod_lt_of_pos x h
 have h2:=Int.lt_tmod_of_pos x h
 exact ⟨h2,h1⟩
def nV (l:List Int) (a:Nat) (n:Int):Int:=if n<1 then 0 else if (ow l a).tmod n<0 then (ow l a).tmod n+n else (ow l a).tmod n
def nN (l:List Int) (a:Nat) (n:Int):Nat:=if n<1 then a else MU l a
theorem oz (l:List Int) (a:Nat) (n:Int):0<=nV l a n:=by
 unfold nV
 split
 ·omega
 ·have ht:=MV (x:=ow l a) (show 0<n by omega)
  split<;>omega
theorem oC (l:List Int) (a:Nat) {n:Int} (h:1<=n):nV l a n<n:=by
 unfold nV
 rw [if_neg (by omega)]
 have ht:=MV (x:=ow l a) (show 0<n by omega)
 split<;>omega
theorem ajM (l:List Int) (a:Nat) {n m:Int} (h:n<=m+1) (h0:0<=m):nV l a n<=m:=by
 by_cases h1:1<=n
 ·have:=oC l a h1;omega
 ·unfold nV;rw [if_pos (by omega)];exact h0
theorem gQ (l:List Int) (a:Nat) (n:Int) (hl:l.length<=4000) (hn:n<=1000000):
 Fn Tryz.prog 24 [.ptr 0 0,I n] [dU l a] (I (nV l a n)) [dU l (nN l a n)] []:=by
 refine Fn.aO aii (by simp) ?_
 unfold s24 SC.mk'
 simp only [go_sem]
 refine bC (fun h1=> ?_) (fun h1=> ?_)
 ·have e:n<1:=by simpa using h1
  unfold nV nN
  simp only [if_pos e,h1,go_sem]
  exact Fin.mQ _ rfl rfl rfl rfl rfl rfl rfl
 ·have e:¬ n<1:=by simpa using h1
  simp only [h1,go_sem]
  refine d9 (b:=0) (ajK l a hl) ⟨rfl,trivial⟩ rfl rfl rfl rfl ?_
  have ht:=MV (x:=ow l a) (show 0<n by omega)
  simp only [go_sem]
  refine ⟨by omega,bC (fun h2=> ?_) (fun h2=> ?_)⟩
  ·have e2:(ow l a).tmod n<0:=by simpa using h2
   unfold nV nN
   simp only [if_neg e,if_pos e2,h2,bE (n:=(ow l a).tmod n+n) (by omega),go_sem]
   exact Fin.mQ _ rfl rfl rfl rfl rfl rfl rfl
  ·have e2:¬ (ow l a).tmod n<0:=by simpa using h2
   unfold nV nN
   simp only [if_neg e,if_neg e2,h2,go_sem]
   exact Fin.mQ _ rfl rfl rfl rfl rfl rfl rfl
def fo (l:List Int) (a:Nat) (lo hi:Int):Int:=lo+nV l a (hi - lo+1)
def eD (l:List Int) (a:Nat) (lo hi:Int):Nat:=nN l a (hi - lo+1)
theorem AO (l:List Int) (a:Nat) (lo hi:Int):lo<=fo l a lo hi:=by have:=oz l a (hi - lo+1);unfold fo;omega
theorem wF (l:List Int) (a:Nat) {lo hi:Int} (h:lo<=hi):fo l a lo hi<=hi:=by have:=oC l a (n:=hi - lo+1) (by omega);unfold fo;omega
theorem kU (l:List Int) (a:Nat) (lo hi:Int) (hl:l.length<=4000) (h1: -100000<=lo/\lo<=100000) (h2: -100000<=hi/\hi<=100000):
 Fn Tryz.prog 16 [.ptr 0 0,I lo,I hi] [dU l a] (I (fo l a lo hi)) [dU l (eD l a lo hi)] []:=by
 refine Fn.aO ok16 (by simp) ?_
 unfold s16 SC.mk'
 simp only [bE (n:=hi - lo) (by omega),bE (n:=hi - lo+1) (by omega),go_sem]
 refine d9 (b:=0) (gQ l a (hi - lo+1) hl (by omega)) ⟨rfl,⟨rfl,rfl⟩,trivial⟩ rfl rfl rfl rfl ?_
 have h3:=oz l a (hi - lo+1)
 have h4:=ajM l a (n:=hi - lo+1) (m:=300000) (by omega) (by omega)
 simp only [bE (n:=lo+nV l a (hi - lo+1)) (by omega),go_sem]
 exact Fin.mQ _ rfl rfl rfl rfl rfl rfl rfl
theorem Vu (l:List Int):Fn Tryz.prog 11 [.sl 1 (encI l)] [] (.ptr 4 0) [] [.box (dU (l.take 4000) 0)]:=by
 refine Fn.aO aid (by simp) ?_
 unfold s11 SC.mk'
 simp only [go_sem]
 refine bC (fun h1=> ?_) (fun h1=> ?_)
 ·have e:(4000:Int)<l.length:=by simpa using h1
  have e2:List.drop ((0:Nat):Int).toNat (List.take (Int.toNat 4000) (encI l))=encI (l.take 4000):=by rw [ajH];rfl
  simp only [h1,e2,go_sem]
  refine ⟨⟨by omega,by omega,by omega⟩,⟨[(4,80)],[],_,rfl,rfl,?_,?_,?_⟩⟩
  ·simp only [cZ,outs,gG,dB,List.map_nil,List.nil_append,bO,au,rv,dU,go_sem]
   trivial
  ·simp only [gY]
  ·simp only [ay,rv,go_sem]
 ·have e:¬ (4000:Int)<l.length:=by simpa using h1
  have e2:l.take 4000=l:=List.take_of_length_le (by omega)
  simp only [h1,e2,go_sem]
  refine ⟨[(4,56)],[],_,rfl,rfl,?_,?_,?_⟩
  ·simp only [cZ,outs,gG,dB,List.map_nil,List.nil_append,bO,au,rv,dU,go_sem]
   trivial
  ·simp only [gY]
  ·simp only [ay,rv,go_sem]
def oD (l:List Int) (a:Nat):Nat->Nat
 |0=>a
 |j+1=>nN l (oD l a j) 3
def yC (l:List Int) (a j:Nat):Int:=97+nV l (oD l a j) 3
def lF (l:List Int) (a n j:Nat):List (List AV):=(List.range n).map fun k=>[.v (.int .u8 (if k<j then yC l a k else 0))]
def Vv (l:List Int) (a n:Nat):ByteArray:=⟨((List.range n).map fun k=>(yC l a k).toNat.toUInt8).toArray⟩
theorem Vw (l:List Int) (a n j:Nat):(lF l a n j).length=n:=by simp [lF]
theorem ajN (l:List Int) (a n:Nat):List.replicate n [AV.v (.int .u8 0)]=lF l a n 0:=by
 refine List.ext_getElem (by simp [lF]) fun i h1 h2=>by simp [lF]
theorem ajO (l:List Int) (a n j:Nat):(lF l a n j).set j [.v (.int .u8 (yC l a j))]=lF l a n (j+1):=by
 refine List.ext_getElem (by simp [lF]) fun i h1 h2=> ?_
 simp only [lF,List.getElem_set,List.getElem_map,List.getElem_range]
 by_cases e:j=i
 ·subst e;simp
 ·rw [if_neg e]
  have:(i<j)=(i<j+1):=by simp only [eq_iff_iff];omega
  simp only [this]
theorem aa8 (f:Nat->Int):∀ ks:List Nat,rQ (ks.map fun k=>[.v (.int .u8 (f k))])=some (ks.map fun k=>(f k).toNat.toUInt8)
 |[]=>rfl
 |k::ks=>by simp only [List.map_cons,rQ,aa8 f ks]
theorem ajP (l:List Int) (a n:Nat):bytesOf (lF l a n n)=some (Vv l a n):=by
 have e:lF l a n n=(List.range n).map fun k=>[.v (.int .u8 (yC l a k))]:=by
  refine List.map_congr_left fun k hk=> ?_
  rw [if_pos (List.mem_range.1 hk)]
 rw [e]
 simp only [bytesOf,aa8 (yC l a)]
 rfl
theorem ajQ (l:List Int) (a n j:Nat) (h:j<n):∃ z,nth (lF l a n j) j=[.v (.int .u8 z)]:=⟨_,by simp [nth,lF,h];rfl⟩
theorem ajR (l:List Int) (a:Nat) (hl:l.length<=4000):
 Fn Tryz.prog 178 [.ptr 0 0] [dU l a] (.v (.string (Vv l (nN l a 4) (nV l a 4).toNat))) [dU l (oD l (nN l a 4) (nV l a 4).toNat)] []:=by
 refine Fn.aO aiF (by simp) ?_
 unfold RQ SC.mk'
 simp only [go_sem]
 refine d9 (b:=0) (gQ l a 4 hl (by omega)) ⟨rfl,⟨rfl,rfl⟩,trivial⟩ rfl rfl rfl rfl ?_
 have h0:=oz l a 4
 have h1:=oC l a (n:=4) (by omega)
 obtain ⟨n,hn⟩:∃ n:Nat,nV l a 4=(n:Int):=⟨(nV l a 4).toNat,by omega⟩
 have hn3:n<=3:=by omega
 simp only [hn,Int.toNat_natCast,List.map_cons,List.map_nil,ajN l (nN l a 4) n,go_sem]
 refine ⟨⟨by omega,by omega,by omega⟩,?_⟩
 refine go_loop (fun j:{j:Nat // j<=n}=>⟨1000,[(0,.ptr 0 0),(3,.own 32 1 0 n),(4,I j.1)],[(0,.box (dU l (oD l (nN l a 4) j.1))),(32,.row 5 1 (lF l (nN l a 4) n j.1))]⟩) (fun j=>n - j.1) ⟨0,by omega⟩
  (Wk.mk [(0,0),(32,32)] [] rfl rfl (by simp only [cZ,bO,au,rv,oD,go_sem]) (by simp only [go_sem]) (by simp only [rv,oD,go_sem];rfl)) ?_
 intro j B hB
 simp only [go_sem]
 refine bC (fun h2=> ?_) (fun h2=> ?_)<;>simp only [h2,go_sem]
 ·have e1:j.1<n:=by simp only [decide_eq_true_eq] at h2;omega
  refine d9 (b:=0) (gQ l (oD l (nN l a 4) j.1) 3 hl (by omega)) ⟨rfl,⟨rfl,rfl⟩,trivial⟩ rfl rfl rfl rfl ?_
  obtain ⟨z,hz⟩:=ajQ l (nN l a 4) n j.1 e1
  have h5:=oz l (oD l (nN l a 4) j.1) 3
  have h6:=oC l (oD l (nN l a 4) j.1) (n:=3) (by omega)
  have h7:IntKind.u8.wrap (97+nV l (oD l (nN l a 4) j.1) 3)=yC l (nN l a 4) j.1:=by rw [IntKind.wrap_u8];unfold yC;omega
  simp only [bE (n:=97+nV l (oD l (nN l a 4) j.1) 3) (by omega),h7,bT (show j.1<=100000 by omega),Int.toNat_natCast,hz,Vw,List.drop_one,List.tail_cons,ajO,go_sem]
  refine ⟨⟨by omega,by omega⟩,e1,?_⟩
  exact hB _ ⟨j.1+1,e1⟩ (by simp only;omega) (Wk.mk [(0,0),(32,32)] [] rfl rfl (by simp only [cZ,bO,au,rv,oD,go_sem]) (by simp only [go_sem]) (by simp only [rv,go_sem]))
 ·have e1:j.1=n:=by have:=j.2;simp only [decide_eq_false_iff_not] at h2;omega
  have h8:List.take n (lF l (nN l a 4) n n)=lF l (nN l a 4) n n:=List.take_of_length_le (by rw [Vw];omega)
  have h9:=ajP l (nN l a 4) n
  simp only [bytesOf] at h9
  simp only [e1,h8,h9,Vw,go_sem]
  refine ⟨by omega,Fin.mQ _ rfl rfl rfl rfl rfl rfl ?_⟩
  simp only [ay]
def Df (r lo hi:Int):Int:=if r<0 then 0 else if 65536<=r then 0 else if lo<0 then 0 else if 65536<=hi then 0 else if hi<lo then 0 else if lo<=r then if r<=hi then r else lo+r.tmod (hi - lo+1) else lo+r.tmod (hi - lo+1)
theorem aa9 (r lo hi:Int):Fn Tryz.prog 182 [I r,I lo,I hi] [] (I (Df r lo hi)) [] []:=by
 refine Fn.aO R3 (by simp) ?_
 unfold RZ SC.mk' Df
 simp only [go_sem]
 by_cases h1:r<0
 ·simp only [h1,if_true,decide_true,go_sem]
  exact Fin.bI _ rfl rfl rfl rfl
 by_cases h2:65536<=r
 ·simp only [h1,h2,if_true,if_false,decide_true,decide_false,go_sem]
  exact Fin.bI _ rfl rfl rfl rfl
 by_cases h3:lo<0
 ·simp only [h1,h2,h3,if_true,if_false,decide_true,decide_false,go_sem]
  exact Fin.bI _ rfl rfl rfl rfl
 by_cases h4:65536<=hi
 ·simp only [h1,h2,h3,h4,if_true,if_false,decide_true,decide_false,go_sem]
  exact Fin.bI _ rfl rfl rfl rfl
 by_cases h5:hi<lo
 ·simp only [h1,h2,h3,h4,h5,if_true,if_false,decide_true,decide_false,go_sem]
  exact Fin.bI _ rfl rfl rfl rfl
 have ht:=MV (x:=r) (show 0<hi - lo+1 by omega)
 have ht':=Int.tmod_nonneg (hi - lo+1) (show 0<=r by omega)
 by_cases h6:lo<=r
 ·by_cases h7:r<=hi
  ·simp only [h1,h2,h3,h4,h5,h6,h7,if_true,if_false,decide_true,decide_false,go_sem]
   exact Fin.bI _ rfl rfl rfl rfl
  ·simp only [h1,h2,h3,h4,h5,h6,h7,if_true,if_false,decide_true,decide_false,bE (n:=hi - lo) (by omega),bE (n:=hi - lo+1) (by omega),bE (n:=lo+r.tmod (hi - lo+1)) (by omega),go_sem]
   exact ⟨by omega,Fin.bI _ rfl rfl rfl rfl⟩
 ·simp only [h1,h2,h3,h4,h5,h6,if_true,if_false,decide_true,decide_false,bE (n:=hi - lo) (by omega),bE (n:=hi - lo+1) (by omega),bE (n:=lo+r.tmod (hi - lo+1)) (by omega),go_sem]
  exact ⟨by omega,Fin.bI _ rfl rfl rfl rfl⟩
end Go.Eng
