/-
  Part of a proof: lemmas and definitions of this work.
  No condition.
-/
import Derived.Test.YtmhaehngejengaaGreatA12
import Derived.Test.YtmhaehngejengaaGreatA05
import Derived.Test.YtmhaehngejengaaGreatA08
import Derived.Test.YtmhaehngejengaaGreatA09
import Derived.Test.YtmhaehngejengaaGreatA10
import Derived.Test.YtmhaehngejengaaGreatA11
set_option linter.all false
set_option maxRecDepth 100000
set_option maxHeartbeats 8000000
namespace Go.Eng
open Go
abbrev I (n:Int):AV:= .v (.int .i64 n)
abbrev B8 (b:UInt8):AV:= .v (.int .u8 b.toNat)
abbrev Bo (b:Bool):AV:= .v (.bool b)
abbrev Nl:AV:= .v (.slice none 0 0)
abbrev Z:AV:= .v (.int .i64 0)
def encI (l:List Int):List (List AV):=l.map fun z=>[I z]
def encS (l:List ByteArray):List (List AV):=l.map fun z=>[.v (.string z)]
def eG (b:List UInt8):List (List AV):=b.map fun x=>[B8 x]
abbrev iM (b:List UInt8):AV:= .sl 1 (eG b)
def dm (l:List (List UInt8)):List (List AV):=l.map fun b=>[iM b]
theorem bH {n:Int} (h: -9223372036854775808≤n∧n≤9223372036854775807):IntKind.i64.wrap n=n:=by
 rw [IntKind.wrap_i64];omega
structure ai where
 id:Int
 route:Int
 epoch:Int
 count:Int
 gen:Int
 sent:Int
 body:ByteArray
def ai.enc (x:ai):List AV:=[I x.id,I x.route,I x.epoch,I x.count,I x.gen,I x.sent,.v (.string x.body)]
abbrev ai.z:ai:=⟨0,0,0,0,0,0,⟨#[]⟩⟩
theorem ai.iD (x:ai):x.enc.length=7:=rfl
@[go_sem] theorem ai.iO (x:ai):fH x.enc=[]:=rfl
structure Ring where
 cells:List ai
 head:Int
 size:Int
def Ring.enc (x:Ring):List AV:=[.sl 7 (x.cells.map ai.enc),I x.head,I x.size]
abbrev Ring.z:Ring:=⟨[],0,0⟩
theorem Ring.iD (x:Ring):x.enc.length=3:=rfl
@[go_sem] theorem Ring.iO (x:Ring):fH x.enc=[]:=rfl
structure Due where
 dl:Int
 id:Int
def Due.enc (x:Due):List AV:=[I x.dl,I x.id]
abbrev Due.z:Due:=⟨0,0⟩
theorem Due.iD (x:Due):x.enc.length=2:=rfl
@[go_sem] theorem Due.iO (x:Due):fH x.enc=[]:=rfl
structure Lease where
 msg:ai
 dl:Int
def Lease.enc (x:Lease):List AV:=[I x.msg.id,I x.msg.route,I x.msg.epoch,I x.msg.count,I x.msg.gen,I x.msg.sent,.v (.string x.msg.body),I x.dl]
abbrev Lease.z:Lease:=⟨ai.z,0⟩
theorem Lease.iD (x:Lease):x.enc.length=8:=rfl
@[go_sem] theorem Lease.iO (x:Lease):fH x.enc=[]:=rfl
structure Table where
 l:List Lease
 heap:List Due
def Table.enc (x:Table):List AV:=[.sl 8 (x.l.map Lease.enc),.sl 2 (x.heap.map Due.enc)]
abbrev Table.z:Table:=⟨[],[]⟩
theorem Table.iD (x:Table):x.enc.length=2:=rfl
@[go_sem] theorem Table.iO (x:Table):fH x.enc=[]:=rfl
structure aj where
 live:Bool
 low:Int
 high:Int
 ready:Ring
 aP:Table
def aj.enc (x:aj):List AV:=[Bo x.live,I x.low,I x.high,.sl 7 (x.ready.cells.map ai.enc),I x.ready.head,I x.ready.size,.sl 8 (x.aP.l.map Lease.enc),.sl 2 (x.aP.heap.map Due.enc)]
abbrev aj.z:aj:=⟨false,0,0,Ring.z,Table.z⟩
theorem aj.iD (x:aj):x.enc.length=8:=rfl
@[go_sem] theorem aj.iO (x:aj):fH x.enc=[]:=rfl
structure Dead where
 cap:Int
 l:List ai
def Dead.enc (x:Dead):List AV:=[I x.cap,.sl 7 (x.l.map ai.enc)]
abbrev Dead.z:Dead:=⟨0,[]⟩
theorem Dead.iD (x:Dead):x.enc.length=2:=rfl
@[go_sem] theorem Dead.iO (x:Dead):fH x.enc=[]:=rfl
structure Hd where
 id:Int
 gen:Int
 route:Int
 hint:Int
def Hd.enc (x:Hd):List AV:=[I x.id,I x.gen,I x.route,I x.hint]
abbrev Hd.z:Hd:=⟨0,0,0,0⟩
theorem Hd.iD (x:Hd):x.enc.length=4:=rfl
@[go_sem] theorem Hd.iO (x:Hd):fH x.enc=[]:=rfl
structure Span where
 low:Int
 high:Int
 shard:Int
def Span.enc (x:Span):List AV:=[I x.low,I x.high,I x.shard]
abbrev Span.z:Span:=⟨0,0,0⟩
theorem Span.iD (x:Span):x.enc.length=3:=rfl
@[go_sem] theorem Span.iO (x:Span):fH x.enc=[]:=rfl
structure Dir where
 version:Int
 l:List Span
 aJ:List Int
def Dir.enc (x:Dir):List AV:=[I x.version,.sl 3 (x.l.map Span.enc),.sl 1 (encI x.aJ)]
abbrev Dir.z:Dir:=⟨0,[],[]⟩
theorem Dir.iD (x:Dir):x.enc.length=3:=rfl
@[go_sem] theorem Dir.iO (x:Dir):fH x.enc=[]:=rfl
structure bT where
 kind:Int
 bC:Int
 to:Int
 mid:Int
def bT.enc (x:bT):List AV:=[I x.kind,I x.bC,I x.to,I x.mid]
abbrev bT.z:bT:=⟨0,0,0,0⟩
theorem bT.iD (x:bT):x.enc.length=4:=rfl
@[go_sem] theorem bT.iO (x:bT):fH x.enc=[]:=rfl
structure aH where
 seq:Int
 epoch:Int
 ready:Int
 fB:Int
def aH.enc (x:aH):List AV:=[I x.seq,I x.epoch,I x.ready,I x.fB]
abbrev aH.z:aH:=⟨0,0,0,0⟩
theorem aH.iD (x:aH):x.enc.length=4:=rfl
@[go_sem] theorem aH.iO (x:aH):fH x.enc=[]:=rfl
structure Slot where
 owner:Int
 shard:aj
def Slot.enc (x:Slot):List AV:=[I x.owner,Bo x.shard.live,I x.shard.low,I x.shard.high,.sl 7 (x.shard.ready.cells.map ai.enc),I x.shard.ready.head,I x.shard.ready.size,.sl 8 (x.shard.aP.l.map Lease.enc),.sl 2 (x.shard.aP.heap.map Due.enc)]
abbrev Slot.z:Slot:=⟨0,aj.z⟩
theorem Slot.iD (x:Slot):x.enc.length=9:=rfl
@[go_sem] theorem Slot.iO (x:Slot):fH x.enc=[]:=rfl
structure tq where
 owner:Int
 dead:Dead
def tq.enc (x:tq):List AV:=[I x.owner,I x.dead.cap,.sl 7 (x.dead.l.map ai.enc)]
abbrev tq.z:tq:=⟨0,Dead.z⟩
theorem tq.iD (x:tq):x.enc.length=3:=rfl
@[go_sem] theorem tq.iO (x:tq):fH x.enc=[]:=rfl
structure ak where
 slots:List Slot
 cu:List aH
 dead:tq
 dir:Dir
 epoch:Int
 clock:Int
 fQ:Int
def ak.enc (x:ak):List AV:=[.sl 9 (x.slots.map Slot.enc),.sl 4 (x.cu.map aH.enc),I x.dead.owner,I x.dead.dead.cap,.sl 7 (x.dead.dead.l.map ai.enc),I x.dir.version,.sl 3 (x.dir.l.map Span.enc),.sl 1 (encI x.dir.aJ),I x.epoch,I x.clock,I x.fQ]
abbrev ak.z:ak:=⟨[],[],tq.z,Dir.z,0,0,0⟩
theorem ak.iD (x:ak):x.enc.length=11:=rfl
@[go_sem] theorem ak.iO (x:ak):fH x.enc=[]:=rfl
structure Setup where
 slots:Int
 live:Int
 capacity:Int
 dead:Int
 limit:Int
 clock:Int
 fQ:Int
 epoch:Int
def Setup.enc (x:Setup):List AV:=[I x.slots,I x.live,I x.capacity,I x.dead,I x.limit,I x.clock,I x.fQ,I x.epoch]
abbrev Setup.z:Setup:=⟨0,0,0,0,0,0,0,0⟩
theorem Setup.iD (x:Setup):x.enc.length=8:=rfl
@[go_sem] theorem Setup.iO (x:Setup):fH x.enc=[]:=rfl
structure bf where
 cells:List Int
 phase:Int
 got:Int
 tries:Int
 wait:Int
def bf.enc (x:bf):List AV:=[.sl 1 (encI x.cells),I x.phase,I x.got,I x.tries,I x.wait]
abbrev bf.z:bf:=⟨[],0,0,0,0⟩
theorem bf.iD (x:bf):x.enc.length=5:=rfl
@[go_sem] theorem bf.iO (x:bf):fH x.enc=[]:=rfl
structure dG where
 phase:Int
 epoch:Int
 clock:Int
 stamp:Int
def dG.enc (x:dG):List AV:=[I x.phase,I x.epoch,I x.clock,I x.stamp]
abbrev dG.z:dG:=⟨0,0,0,0⟩
theorem dG.iD (x:dG):x.enc.length=4:=rfl
@[go_sem] theorem dG.iO (x:dG):fH x.enc=[]:=rfl
structure bG where
 shards:List aj
 dead:Dead
 order:List Int
 carry:List ai
 dS:List bT
def bG.enc (x:bG):List AV:=[.sl 8 (x.shards.map aj.enc),I x.dead.cap,.sl 7 (x.dead.l.map ai.enc),.sl 1 (encI x.order),.sl 7 (x.carry.map ai.enc),.sl 4 (x.dS.map bT.enc)]
abbrev bG.z:bG:=⟨[],Dead.z,[],[],[]⟩
theorem bG.iD (x:bG):x.enc.length=6:=rfl
@[go_sem] theorem bG.iO (x:bG):fH x.enc=[]:=rfl
structure ax where
 phase:Int
 at_:Int
 lock:bf
 aG:dG
 shards:List aj
 dead:Dead
 cu:List aH
 dir:Dir
 out:bG
 limit:Int
 carry:List ai
def ax.enc (x:ax):List AV:=[I x.phase,I x.at_,.sl 1 (encI x.lock.cells),I x.lock.phase,I x.lock.got,I x.lock.tries,I x.lock.wait,I x.aG.phase,I x.aG.epoch,I x.aG.clock,I x.aG.stamp,.sl 8 (x.shards.map aj.enc),I x.dead.cap,.sl 7 (x.dead.l.map ai.enc),.sl 4 (x.cu.map aH.enc),I x.dir.version,.sl 3 (x.dir.l.map Span.enc),.sl 1 (encI x.dir.aJ),.sl 8 (x.out.shards.map aj.enc),I x.out.dead.cap,.sl 7 (x.out.dead.l.map ai.enc),.sl 1 (encI x.out.order),.sl 7 (x.out.carry.map ai.enc),.sl 4 (x.out.dS.map bT.enc),I x.limit,.sl 7 (x.carry.map ai.enc)]
abbrev ax.z:ax:=⟨0,0,bf.z,dG.z,[],Dead.z,[],Dir.z,bG.z,0,[]⟩
theorem ax.iD (x:ax):x.enc.length=26:=rfl
@[go_sem] theorem ax.iO (x:ax):fH x.enc=[]:=rfl
structure Walk where
 next:Int
 covered:Int
def Walk.enc (x:Walk):List AV:=[I x.next,I x.covered]
abbrev Walk.z:Walk:=⟨0,0⟩
theorem Walk.iD (x:Walk):x.enc.length=2:=rfl
@[go_sem] theorem Walk.iO (x:Walk):fH x.enc=[]:=rfl
structure bV where
 kind:Int
 home:Int
 max_:Int
 vis:Int
 bC:Int
 to:Int
 bodies:List ByteArray
 tokens:List (List UInt8)
def bV.enc (x:bV):List AV:=[I x.kind,I x.home,I x.max_,I x.vis,I x.bC,I x.to,.sl 1 (encS x.bodies),.sl 1 (dm x.tokens)]
abbrev bV.z:bV:=⟨0,0,0,0,0,0,[],[]⟩
theorem bV.iD (x:bV):x.enc.length=8:=rfl
@[go_sem] theorem bV.iO (x:bV):fH x.enc=[]:=rfl
structure aV where
 err:Int
 id:Int
 tokens:List (List UInt8)
 bodies:List ByteArray
 ready:Int
 fB:Int
 moved:Int
def aV.enc (x:aV):List AV:=[I x.err,I x.id,.sl 1 (dm x.tokens),.sl 1 (encS x.bodies),I x.ready,I x.fB,I x.moved]
abbrev aV.z:aV:=⟨0,0,[],[],0,0,0⟩
theorem aV.iD (x:aV):x.enc.length=7:=rfl
@[go_sem] theorem aV.iO (x:aV):fH x.enc=[]:=rfl
structure dD where
 id:Int
 gen:Int
 route:Int
 dl:Int
def dD.enc (x:dD):List AV:=[I x.id,I x.gen,I x.route,I x.dl]
abbrev dD.z:dD:=⟨0,0,0,0⟩
theorem dD.iD (x:dD):x.enc.length=4:=rfl
@[go_sem] theorem dD.iO (x:dD):fH x.enc=[]:=rfl
structure Ev where
 stamp:Int
 task:Int
 entry:Int
 kind:Int
 now:Int
 epoch:Int
 err:Int
 l:List dD
 ready:Int
 fB:Int
def Ev.enc (x:Ev):List AV:=[I x.stamp,I x.task,I x.entry,I x.kind,I x.now,I x.epoch,I x.err,.sl 4 (x.l.map dD.enc),I x.ready,I x.fB]
abbrev Ev.z:Ev:=⟨0,0,0,0,0,0,0,[],0,0⟩
theorem Ev.iD (x:Ev):x.enc.length=10:=rfl
@[go_sem] theorem Ev.iO (x:Ev):fH x.enc=[]:=rfl
structure Task where
 number:Int
 inv:bV
 invoked:Int
 dn:Bool
 ended:Int
 pc:Int
 entry:Int
 results:List aV
 setup:Setup
 sec:ax
 dir:Dir
 walk:Walk
 slot:Int
 id:Int
 hnd:Hd
 loaded:Int
 first:List aH
 second:List aH
def Task.enc (x:Task):List AV:=[I x.number,I x.inv.kind,I x.inv.home,I x.inv.max_,I x.inv.vis,I x.inv.bC,I x.inv.to,.sl 1 (encS x.inv.bodies),.sl 1 (dm x.inv.tokens),I x.invoked,Bo x.dn,I x.ended,I x.pc,I x.entry,.sl 7 (x.results.map aV.enc),I x.setup.slots,I x.setup.live,I x.setup.capacity,I x.setup.dead,I x.setup.limit,I x.setup.clock,I x.setup.fQ,I x.setup.epoch,I x.sec.phase,I x.sec.at_,.sl 1 (encI x.sec.lock.cells),I x.sec.lock.phase,I x.sec.lock.got,I x.sec.lock.tries,I x.sec.lock.wait,I x.sec.aG.phase,I x.sec.aG.epoch,I x.sec.aG.clock,I x.sec.aG.stamp,.sl 8 (x.sec.shards.map aj.enc),I x.sec.dead.cap,.sl 7 (x.sec.dead.l.map ai.enc),.sl 4 (x.sec.cu.map aH.enc),I x.sec.dir.version,.sl 3 (x.sec.dir.l.map Span.enc),.sl 1 (encI x.sec.dir.aJ),.sl 8 (x.sec.out.shards.map aj.enc),I x.sec.out.dead.cap,.sl 7 (x.sec.out.dead.l.map ai.enc),.sl 1 (encI x.sec.out.order),.sl 7 (x.sec.out.carry.map ai.enc),.sl 4 (x.sec.out.dS.map bT.enc),I x.sec.limit,.sl 7 (x.sec.carry.map ai.enc),I x.dir.version,.sl 3 (x.dir.l.map Span.enc),.sl 1 (encI x.dir.aJ),I x.walk.next,I x.walk.covered,I x.slot,I x.id,I x.hnd.id,I x.hnd.gen,I x.hnd.route,I x.hnd.hint,I x.loaded,.sl 4 (x.first.map aH.enc),.sl 4 (x.second.map aH.enc)]
abbrev Task.z:Task:=⟨0,bV.z,0,false,0,0,0,[],Setup.z,ax.z,Dir.z,Walk.z,0,0,Hd.z,0,[],[]⟩
theorem Task.iD (x:Task):x.enc.length=63:=rfl
@[go_sem] theorem Task.iO (x:Task):fH x.enc=[]:=rfl
structure aK where
 setup:Setup
 arena:ak
 tasks:List Task
 log:List Ev
 steps:Int
 handles:List (List UInt8)
def aK.enc (x:aK):List AV:=[I x.setup.slots,I x.setup.live,I x.setup.capacity,I x.setup.dead,I x.setup.limit,I x.setup.clock,I x.setup.fQ,I x.setup.epoch,.sl 9 (x.arena.slots.map Slot.enc),.sl 4 (x.arena.cu.map aH.enc),I x.arena.dead.owner,I x.arena.dead.dead.cap,.sl 7 (x.arena.dead.dead.l.map ai.enc),I x.arena.dir.version,.sl 3 (x.arena.dir.l.map Span.enc),.sl 1 (encI x.arena.dir.aJ),I x.arena.epoch,I x.arena.clock,I x.arena.fQ,.sl 63 (x.tasks.map Task.enc),.sl 10 (x.log.map Ev.enc),I x.steps,.sl 1 (dm x.handles)]
abbrev aK.z:aK:=⟨Setup.z,ak.z,[],[],0,[]⟩
theorem aK.iD (x:aK):x.enc.length=23:=rfl
@[go_sem] theorem aK.iO (x:aK):fH x.enc=[]:=rfl
structure dI where
 index:Int
 variant:Int
 raw:List UInt8
def dI.enc (x:dI):List AV:=[I x.index,I x.variant,iM x.raw]
abbrev dI.z:dI:=⟨0,0,[]⟩
theorem dI.iD (x:dI):x.enc.length=3:=rfl
@[go_sem] theorem dI.iO (x:dI):fH x.enc=[]:=rfl
structure bI where
 kind:Int
 pick:Int
 eY:Int
 inv:bV
 refs:List dI
def bI.enc (x:bI):List AV:=[I x.kind,I x.pick,I x.eY,I x.inv.kind,I x.inv.home,I x.inv.max_,I x.inv.vis,I x.inv.bC,I x.inv.to,.sl 1 (encS x.inv.bodies),.sl 1 (dm x.inv.tokens),.sl 3 (x.refs.map dI.enc)]
abbrev bI.z:bI:=⟨0,0,0,bV.z,[]⟩
theorem bI.iD (x:bI):x.enc.length=12:=rfl
@[go_sem] theorem bI.iO (x:bI):fH x.enc=[]:=rfl
theorem aS (l:List Int):(encI l).length=l.length:=by simp [encI]
theorem fD (l:List ByteArray):(encS l).length=l.length:=by simp [encS]
theorem oH (l:List UInt8):(eG l).length=l.length:=by simp [eG]
theorem fE (l:List (List UInt8)):(dm l).length=l.length:=by simp [dm]
attribute [go_sem] aS fD oH fE List.length_map
theorem bZ {α:Type} (f:α→List AV) (d:α) {l:List α} {k:Nat} (h:k<l.length):nth (l.map f) k=f (l[k]?.getD d):=by
 simp [nth,h]
theorem ak7 {l:List Int} {k:Nat} (h:k<l.length):nth (encI l) k=[I (l[k]?.getD 0)]:=by simp [nth,encI,h]
theorem aa1 {l:List ByteArray} {k:Nat} (h:k<l.length):nth (encS l) k=[.v (.string (l[k]?.getD ⟨#[]⟩))]:=by simp [nth,encS,h]
theorem eP {α:Type} (d:α) {l:List α} {i:Nat} (h:i<l.length):l.drop i=l[i]?.getD d::l.drop (i+1):=by
 rw [List.drop_eq_getElem_cons h,List.getElem?_eq_getElem h];rfl
theorem fF {α:Type} {l:List α} {i:Nat} (h:l.length≤i):l.drop i=[]:=List.drop_eq_nil_of_le h
theorem bD {α:Type} {l:List α} {i:Nat} (h:l.length≤i):l.take i=l:=List.take_of_length_le h
theorem ak8 (n:Nat):(n+1≤n)=False:=by simp
attribute [go_sem] ak8 pJ
attribute [go_sem] reduceIte Nat.reduceAdd Nat.reduceMul Nat.reduceSub Nat.reduceEqDiff Nat.reduceLeDiff Nat.reduceLT reduceCtorEq Nat.succ_eq_add_one
attribute [go_sem] cond_true cond_false Bool.false_or Bool.or_false Nat.reduceBEq Nat.reduceBeqDiff
end Go.Eng
namespace Go.Eng
open Go Go.Proofs
theorem aa2 {l:List Int} {k:Nat} (h:k<l.length):nth (encI l) k=[I l[k]]:=by simp [encI,nth,h]
theorem ak9 (l:List Int) (k:Nat):(encI l).take k=encI (l.take k):=by simp [encI,List.map_take]
theorem cZ {p:Nat} (h:p≤100000):IntKind.i64.wrap ((p:Int)+1)=((p+1:Nat):Int):=by rw [bH (by omega)];omega
theorem ala {p:Nat} (h:p≤100000):IntKind.i64.wrap (((p+1:Nat):Int) - 1)=(p:Int):=by rw [bH (by omega)];omega
attribute [go_sem] aS
abbrev eU (l:List Int) (a:Nat):List AV:=[.sl 1 (encI l),I a]
def qc (l:List Int) (a:Nat):Int:=l[a]?.getD 0
def NT (l:List Int) (a:Nat):Nat:=if a<l.length then a+1 else a
theorem alb {l:List Int} {a:Nat} (h:a<l.length):qc l a=l[a]:=by simp [qc,h]
theorem alc (l:List Int) (a:Nat) (hl:l.length≤4000):Fn Tryz.prog 94 [.ptr 0 0] [eU l a] (I (qc l a)) [eU l (NT l a)] []:=by
 refine Fn.aN ait (by simp) ?_
 unfold RQ SC.mk'
 simp only [go_sem]
 refine ⟨rfl,bF (fun h1=> ?_) (fun h1=> ?_)⟩<;>simp only [h1,go_sem]
 ·have e1:¬ a<l.length:=by simp only [decide_eq_true_eq] at h1;omega
  refine Fin.oD _ rfl rfl rfl rfl rfl ?_ ?_
  ·simp only [NT,e1,go_sem]
  ·simp only [qc,List.getElem?_eq_none (show l.length≤a by omega),ay];rfl
 ·have e1:a<l.length:=by simp only [decide_eq_false_iff_not] at h1;omega
  simp only [cZ (show a≤100000 by omega),ala (show a≤100000 by omega),Int.toNat_natCast,aa2 e1,go_sem]
  refine ⟨⟨by omega,by omega⟩,rfl,?_⟩
  refine Fin.oD _ rfl rfl rfl rfl rfl ?_ ?_
  ·simp only [NT,e1,go_sem]
  ·simp only [alb e1,ay]
theorem ald (l:List Int) (a:Nat):Fn Tryz.prog 49 [.ptr 0 0] [eU l a] (Bo (decide (a<l.length))) [eU l a] []:=by
 refine Fn.aN aie (by simp) ?_
 unfold s49 SC.mk'
 simp only [go_sem]
 refine ⟨rfl,?_⟩
 refine Fin.oD _ rfl rfl rfl rfl rfl rfl ?_
 simp only [ay,Int.ofNat_lt]
theorem NU {x n:Int} (h:0<n): -n<x.tmod n∧x.tmod n<n:=by
 have h1:=Int.tmod_lt_of_pos x h
 have h2:=Int.lt_tmod_of_pos x h
 exact ⟨h2,h1⟩
def nV (l:List Int) (a:Nat) (n:Int):Int:=if n<1 then 0 else if (qc l a).tmod n<0 then (qc l a).tmod n+n else (qc l a).tmod n
def nN (l:List Int) (a:Nat) (n:Int):Nat:=if n<1 then a else NT l a
theorem qf (l:List Int) (a:Nat) (n:Int):0≤nV l a n:=by
 unfold nV
 split
 ·omega
 ·have ht:=NU (x:=qc l a) (show 0<n by omega)
  split<;>omega
theorem qg (l:List Int) (a:Nat) {n:Int} (h:1≤n):nV l a n<n:=by
 unfold nV
 rw [if_neg (by omega)]
 have ht:=NU (x:=qc l a) (show 0<n by omega)
 split<;>omega
theorem ale (l:List Int) (a:Nat) {n m:Int} (h:n≤m+1) (h0:0≤m):nV l a n≤m:=by
 by_cases h1:1≤n
 ·have:=qg l a h1;omega
 ·unfold nV;rw [if_pos (by omega)];exact h0
theorem iP (l:List Int) (a:Nat) (n:Int) (hl:l.length≤4000) (hn:n≤1000000):
 Fn Tryz.prog 48 [.ptr 0 0,I n] [eU l a] (I (nV l a n)) [eU l (nN l a n)] []:=by
 refine Fn.aN aid (by simp) ?_
 unfold Rt SC.mk'
 simp only [go_sem]
 refine bF (fun h1=> ?_) (fun h1=> ?_)
 ·have e:n<1:=by simpa using h1
  unfold nV nN
  simp only [if_pos e,h1,go_sem]
  exact Fin.oD _ rfl rfl rfl rfl rfl rfl rfl
 ·have e:¬ n<1:=by simpa using h1
  simp only [h1,go_sem]
  refine fC (b:=0) (alc l a hl) ⟨rfl,trivial⟩ rfl rfl rfl rfl ?_
  have ht:=NU (x:=qc l a) (show 0<n by omega)
  simp only [go_sem]
  refine ⟨by omega,bF (fun h2=> ?_) (fun h2=> ?_)⟩
  ·have e2:(qc l a).tmod n<0:=by simpa using h2
   unfold nV nN
   simp only [if_neg e,if_pos e2,h2,bH (n:=(qc l a).tmod n+n) (by omega),go_sem]
   exact Fin.oD _ rfl rfl rfl rfl rfl rfl rfl
  ·have e2:¬ (qc l a).tmod n<0:=by simpa using h2
   unfold nV nN
   simp only [if_neg e,if_neg e2,h2,go_sem]
   exact Fin.oD _ rfl rfl rfl rfl rfl rfl rfl
def fU (l:List Int) (a:Nat) (lo hi:Int):Int:=lo+nV l a (hi - lo+1)
def eX (l:List Int) (a:Nat) (lo hi:Int):Nat:=nN l a (hi - lo+1)
theorem CW (l:List Int) (a:Nat) (lo hi:Int):lo≤fU l a lo hi:=by have:=qf l a (hi - lo+1);unfold fU;omega
theorem yF (l:List Int) (a:Nat) {lo hi:Int} (h:lo≤hi):fU l a lo hi≤hi:=by have:=qg l a (n:=hi - lo+1) (by omega);unfold fU;omega
theorem lZ (l:List Int) (a:Nat) (lo hi:Int) (hl:l.length≤4000) (h1: -100000≤lo∧lo≤100000) (h2: -100000≤hi∧hi≤100000):
 Fn Tryz.prog 47 [.ptr 0 0,I lo,I hi] [eU l a] (I (fU l a lo hi)) [eU l (eX l a lo hi)] []:=by
 refine Fn.aN aic (by simp) ?_
 unfold Rq SC.mk'
 simp only [bH (n:=hi - lo) (by omega),bH (n:=hi - lo+1) (by omega),go_sem]
 refine fC (b:=0) (iP l a (hi - lo+1) hl (by omega)) ⟨rfl,⟨rfl,rfl⟩,trivial⟩ rfl rfl rfl rfl ?_
 have h3:=qf l a (hi - lo+1)
 have h4:=ale l a (n:=hi - lo+1) (m:=300000) (by omega) (by omega)
 simp only [bH (n:=lo+nV l a (hi - lo+1)) (by omega),go_sem]
 exact Fin.oD _ rfl rfl rfl rfl rfl rfl rfl
theorem fn7 (l:List Int):Fn Tryz.prog 7 [.sl 1 (encI l)] [] (.ptr 4 0) [] [.box (eU (l.take 4000) 0)]:=by
 refine Fn.aN ok7 (by simp) ?_
 unfold s7 SC.mk'
 simp only [go_sem]
 refine bF (fun h1=> ?_) (fun h1=> ?_)
 ·have e:(4000:Int)<l.length:=by simpa using h1
  have e2:List.drop ((0:Nat):Int).toNat (List.take (Int.toNat 4000) (encI l))=encI (l.take 4000):=by rw [ak9];rfl
  simp only [h1,e2,go_sem]
  refine ⟨⟨by omega,by omega,by omega⟩,⟨[(4,80)],[],_,rfl,rfl,?_,?_,?_⟩⟩
  ·simp only [dJ,outs,je,dP,List.map_nil,List.nil_append,cO,au,rv,eU,go_sem]
   trivial
  ·simp only [ja]
  ·simp only [ay,rv,go_sem]
 ·have e:¬ (4000:Int)<l.length:=by simpa using h1
  have e2:l.take 4000=l:=List.take_of_length_le (by omega)
  simp only [h1,e2,go_sem]
  refine ⟨[(4,56)],[],_,rfl,rfl,?_,?_,?_⟩
  ·simp only [dJ,outs,je,dP,List.map_nil,List.nil_append,cO,au,rv,eU,go_sem]
   trivial
  ·simp only [ja]
  ·simp only [ay,rv,go_sem]
end Go.Eng
namespace Go.Eng
open Go Go.Proofs
def qh (l:List Int) (a:Nat):Nat→Nat
 |0=>a
 |j+1=>nN l (qh l a j) 3
def Ae (l:List Int) (a j:Nat):Int:=97+nV l (qh l a j) 3
def mG (l:List Int) (a n j:Nat):List (List AV):=(List.range n).map fun k=>[.v (.int .u8 (if k<j then Ae l a k else 0))]
def Wn (l:List Int) (a n:Nat):ByteArray:=⟨((List.range n).map fun k=>(Ae l a k).toNat.toUInt8).toArray⟩
theorem Wp (l:List Int) (a n j:Nat):(mG l a n j).length=n:=by simp [mG]
theorem alf (l:List Int) (a n:Nat):List.replicate n [AV.v (.int .u8 0)]=mG l a n 0:=by
 refine List.ext_getElem (by simp [mG]) fun i h1 h2=>by simp [mG]
theorem alg (l:List Int) (a n j:Nat):(mG l a n j).set j [.v (.int .u8 (Ae l a j))]=mG l a n (j+1):=by
 refine List.ext_getElem (by simp [mG]) fun i h1 h2=> ?_
 simp only [mG,List.getElem_set,List.getElem_map,List.getElem_range]
 by_cases e:j=i
 ·subst e;simp
 ·rw [if_neg e]
  have:(i<j)=(i<j+1):=by simp only [eq_iff_iff];omega
  simp only [this]
theorem aa3 (f:Nat→Int):∀ ks:List Nat,uw (ks.map fun k=>[.v (.int .u8 (f k))])=some (ks.map fun k=>(f k).toNat.toUInt8)
 |[]=>rfl
 |k::ks=>by simp only [List.map_cons,uw,aa3 f ks]
theorem alh (l:List Int) (a n:Nat):bytesOf (mG l a n n)=some (Wn l a n):=by
 have e:mG l a n n=(List.range n).map fun k=>[.v (.int .u8 (Ae l a k))]:=by
  refine List.map_congr_left fun k hk=> ?_
  rw [if_pos (List.mem_range.1 hk)]
 rw [e]
 simp only [bytesOf,aa3 (Ae l a)]
 rfl
theorem ali (l:List Int) (a n j:Nat) (h:j<n):∃ z,nth (mG l a n j) j=[.v (.int .u8 z)]:=⟨_,by simp [nth,mG,h];rfl⟩
theorem alj (l:List Int) (a:Nat) (hl:l.length≤4000):
 Fn Tryz.prog 96 [.ptr 0 0] [eU l a] (.v (.string (Wn l (nN l a 4) (nV l a 4).toNat))) [eU l (qh l (nN l a 4) (nV l a 4).toNat)] []:=by
 refine Fn.aN aiv (by simp) ?_
 unfold RU SC.mk'
 simp only [go_sem]
 refine fC (b:=0) (iP l a 4 hl (by omega)) ⟨rfl,⟨rfl,rfl⟩,trivial⟩ rfl rfl rfl rfl ?_
 have h0:=qf l a 4
 have h1:=qg l a (n:=4) (by omega)
 obtain ⟨n,hn⟩:∃ n:Nat,nV l a 4=(n:Int):=⟨(nV l a 4).toNat,by omega⟩
 have hn3:n≤3:=by omega
 simp only [hn,Int.toNat_natCast,List.map_cons,List.map_nil,alf l (nN l a 4) n,go_sem]
 refine ⟨⟨by omega,by omega,by omega⟩,?_⟩
 refine go_loop (fun j:{j:Nat // j≤n}=>⟨1000,[(0,.ptr 0 0),(3,.own 32 1 0 n),(4,I j.1)],[(0,.box (eU l (qh l (nN l a 4) j.1))),(32,.row 5 1 (mG l (nN l a 4) n j.1))]⟩) (fun j=>n - j.1) ⟨0,by omega⟩
  (Wk.mk [(0,0),(32,32)] [] rfl rfl (by simp only [dJ,cO,au,rv,qh,go_sem]) (by simp only [go_sem]) (by simp only [rv,qh,go_sem];rfl)) ?_
 intro j B hB
 simp only [go_sem]
 refine bF (fun h2=> ?_) (fun h2=> ?_)<;>simp only [h2,go_sem]
 ·have e1:j.1<n:=by simp only [decide_eq_true_eq] at h2;omega
  refine fC (b:=0) (iP l (qh l (nN l a 4) j.1) 3 hl (by omega)) ⟨rfl,⟨rfl,rfl⟩,trivial⟩ rfl rfl rfl rfl ?_
  obtain ⟨z,hz⟩:=ali l (nN l a 4) n j.1 e1
  have h5:=qf l (qh l (nN l a 4) j.1) 3
  have h6:=qg l (qh l (nN l a 4) j.1) (n:=3) (by omega)
  have h7:IntKind.u8.wrap (97+nV l (qh l (nN l a 4) j.1) 3)=Ae l (nN l a 4) j.1:=by rw [IntKind.wrap_u8];unfold Ae;omega
  simp only [bH (n:=97+nV l (qh l (nN l a 4) j.1) 3) (by omega),h7,cZ (show j.1≤100000 by omega),Int.toNat_natCast,hz,Wp,List.drop_one,List.tail_cons,alg,go_sem]
  refine ⟨⟨by omega,by omega⟩,e1,?_⟩
  exact hB _ ⟨j.1+1,e1⟩ (by simp only;omega) (Wk.mk [(0,0),(32,32)] [] rfl rfl (by simp only [dJ,cO,au,rv,qh,go_sem]) (by simp only [go_sem]) (by simp only [rv,go_sem]))
 ·have e1:j.1=n:=by have:=j.2;simp only [decide_eq_false_iff_not] at h2;omega
  have h8:List.take n (mG l (nN l a 4) n n)=mG l (nN l a 4) n n:=List.take_of_length_le (by rw [Wp];omega)
  have h9:=alh l (nN l a 4) n
  simp only [bytesOf] at h9
  simp only [e1,h8,h9,Wp,go_sem]
  refine ⟨by omega,Fin.oD _ rfl rfl rfl rfl rfl rfl ?_⟩
  simp only [ay]
def Fg (r lo hi:Int):Int:=if r<0 then 0 else if 65536≤r then 0 else if lo<0 then 0 else if 65536≤hi then 0 else if hi<lo then 0 else if lo≤r then if r≤hi then r else lo+r.tmod (hi - lo+1) else lo+r.tmod (hi - lo+1)
theorem aa4 (r lo hi:Int):Fn Tryz.prog 414 [I r,I lo,I hi] [] (I (Fg r lo hi)) [] []:=by
 refine Fn.aN ajr (by simp) ?_
 unfold Ue SC.mk' Fg
 simp only [go_sem]
 by_cases h1:r<0
 ·simp only [h1,if_true,decide_true,go_sem]
  exact Fin.bQ _ rfl rfl rfl rfl
 by_cases h2:65536≤r
 ·simp only [h1,h2,if_true,if_false,decide_true,decide_false,go_sem]
  exact Fin.bQ _ rfl rfl rfl rfl
 by_cases h3:lo<0
 ·simp only [h1,h2,h3,if_true,if_false,decide_true,decide_false,go_sem]
  exact Fin.bQ _ rfl rfl rfl rfl
 by_cases h4:65536≤hi
 ·simp only [h1,h2,h3,h4,if_true,if_false,decide_true,decide_false,go_sem]
  exact Fin.bQ _ rfl rfl rfl rfl
 by_cases h5:hi<lo
 ·simp only [h1,h2,h3,h4,h5,if_true,if_false,decide_true,decide_false,go_sem]
  exact Fin.bQ _ rfl rfl rfl rfl
 have ht:=NU (x:=r) (show 0<hi - lo+1 by omega)
 have ht':=Int.tmod_nonneg (hi - lo+1) (show 0≤r by omega)
 by_cases h6:lo≤r
 ·by_cases h7:r≤hi
  ·simp only [h1,h2,h3,h4,h5,h6,h7,if_true,if_false,decide_true,decide_false,go_sem]
   exact Fin.bQ _ rfl rfl rfl rfl
  ·simp only [h1,h2,h3,h4,h5,h6,h7,if_true,if_false,decide_true,decide_false,bH (n:=hi - lo) (by omega),bH (n:=hi - lo+1) (by omega),bH (n:=lo+r.tmod (hi - lo+1)) (by omega),go_sem]
   exact ⟨by omega,Fin.bQ _ rfl rfl rfl rfl⟩
 ·simp only [h1,h2,h3,h4,h5,h6,if_true,if_false,decide_true,decide_false,bH (n:=hi - lo) (by omega),bH (n:=hi - lo+1) (by omega),bH (n:=lo+r.tmod (hi - lo+1)) (by omega),go_sem]
  exact ⟨by omega,Fin.bQ _ rfl rfl rfl rfl⟩
end Go.Eng
namespace Go.Eng
open Go Go.Proofs
def Af (n:Int) (q:Nat):Int:=IntKind.u8.wrap (n.fdiv (2 ^ (8*(3 - q))))
def l7 (n:Int):Nat→List (List AV)
 |0=>[]
 |q+1=>l7 n q++[[.v (.int .u8 (Af n q))]]
theorem wL (n:Int):∀ q,(l7 n q).length=q
 |0=>rfl
 |q+1=>by simp [l7,wL n q]
theorem aa5 (n:Int) (q:Nat):(l7 n q).take q=l7 n q:=List.take_of_length_le (by rw [wL];omega)
theorem alk (n:Int) (h0:0≤n) (h1:n≤1073741824):Fn Tryz.prog 273 [Nl,I n,I 4] [] (.aF [.sl 1 (l7 n 4),I 0]) [] []:=by
 refine Fn.aN aaQ (by simp) ?_
 unfold ND SC.mk'
 have e1:decide (n<0)=false:=by simpa using h0
 have e2:IntKind.i64.wrap (1*2 ^ (min (IntKind.u64.wrap (IntKind.i64.wrap (8*4))).toNat 64))=4294967296:=by decide
 have e3:decide (4294967296≤n)=false:=by simp;omega
 have e4:IntKind.i64.wrap (4 - 1)=3:=by decide
 have e5:decide ((4:Int)<1)=false:=rfl
 have e6:decide ((6:Int)<4)=false:=rfl
 simp only [e1,e2,e3,e4,e5,e6,go_sem]
 refine ⟨Nat.zero_le _,?_⟩
 refine go_loop (fun q:{q:Nat // q≤4}=>⟨1000,[(1,I n),(8,.own 176 1 0 q.1),(9,I (3 - (q.1:Int)))],[(176,.row 5 1 (l7 n q.1))]⟩) (fun q=>4 - q.1) ⟨0,by omega⟩
  (Wk.mk [(176,176)] [] rfl rfl (by simp only [dJ,cO,au,rv,l7,go_sem]) (by simp only [go_sem]) (by simp only [rv,l7,go_sem];try rfl)) ?_
 intro q B hB
 simp only [go_sem]
 refine bF (fun h2=> ?_) (fun h2=> ?_)<;>simp only [h2,go_sem]
 ·have e7:q.1≤3:=by simp only [decide_eq_true_eq] at h2;omega
  have e8:IntKind.u64.wrap (IntKind.i64.wrap (8*(3 - (q.1:Int))))=((8*(3 - q.1):Nat):Int):=by rw [bH (by omega),IntKind.wrap_u64];omega
  have e9:min (8*(3 - q.1)) 64=8*(3 - q.1):=by omega
  have e10:IntKind.i64.wrap (3 - (q.1:Int) - 1)=3 - ((q.1+1:Nat):Int):=by rw [bH (by omega)];omega
  have e11:IntKind.u8.wrap (n.fdiv (2 ^ (8*(3 - q.1))))=Af n q.1:=rfl
  simp only [e8,e9,e10,e11,Int.toNat_natCast,wL,aa5,List.reduceReplicate,List.length_set,List.length_replicate,List.length_cons,List.length_nil,List.set_cons_zero,List.set_cons_succ,go_sem]
  have hm:q.1+1≤maxLen:=Nat.le_trans (show q.1+1≤4 by omega) (by decide)
  exact ⟨⟨by omega,hm,Nat.le_refl _⟩,hB _ ⟨q.1+1,by omega⟩ (by simp only;omega) (Wk.mk [(176,1080)] [] rfl rfl (by simp only [dJ,cO,au,rv,l7,go_sem]) (by simp only [go_sem]) (by simp only [rv,l7,go_sem]))⟩
 ·have e7:q.1=4:=by have:=q.2;simp only [decide_eq_false_iff_not] at h2;omega
  simp only [e7,go_sem]
  refine Fin.mk0 _ rfl rfl ?_
  simp only [ay,rv,au,wL,aa5,List.drop_zero,go_sem]
  simp
def aa6 (h:Int) (x:List AV):Int:=match x with
 |[.v (.int .u8 b)]=>bits .and .i64 (IntKind.i64.wrap (bits .xor .i64 h b*16777619)) 4294967295
 |_=>h
def Ag (xs:List (List AV)):Nat→Int
 |0=>2166136261
 |j+1=>aa6 (Ag xs j) (nth xs j)
theorem alm (xs:List (List AV)) (hl:xs.length≤100000) (hx:∀ k,k<xs.length→∃ b:Int,(0≤b∧b≤255)∧nth xs k=[.v (.int .u8 b)]):Fn Tryz.prog 338 [.sl 1 xs] [] (I (Ag xs xs.length)) [] []:=by
 refine Fn.aN aaS (by simp) ?_
 unfold NF SC.mk'
 simp only [go_sem]
 refine go_loop (fun j:{j:Nat // j≤xs.length}=>⟨1000,[(0,.sl 1 xs),(3,I (Ag xs j.1)),(4,I j.1)],[]⟩) (fun j=>xs.length - j.1) ⟨0,by omega⟩
  (Wk.mk [] [] rfl rfl (by simp only [go_sem]) (by simp only [go_sem]) (by simp only [rv,Ag,go_sem];try rfl)) ?_
 intro j B hB
 simp only [go_sem]
 refine bF (fun h1=> ?_) (fun h1=> ?_)<;>simp only [h1,go_sem]
 ·have e1:j.1<xs.length:=by simp only [decide_eq_true_eq] at h1;omega
  obtain ⟨b,hb,hn⟩:=hx j.1 e1
  simp only [Int.toNat_natCast,hn,bH (n:=b) (by omega),cZ (show j.1≤100000 by omega),go_sem]
  refine ⟨⟨by omega,by omega⟩,hB _ ⟨j.1+1,e1⟩ (by simp only;omega) (Wk.mk [] [] rfl rfl (by simp only [go_sem]) (by simp only [go_sem]) (by simp only [rv,Ag,aa6,hn,go_sem]))⟩
 ·have e1:j.1=xs.length:=by have:=j.2;simp only [decide_eq_false_iff_not] at h1;omega
  rw [e1]
  exact Fin.bQ _ rfl rfl rfl rfl
theorem aa7 (n:Int):∀ (q k:Nat),k<q→nth (l7 n q) k=[.v (.int .u8 (Af n k))]
 |0,k,h=>absurd h (by omega)
 |q+1,k,h=>by
  by_cases e:k=q
  ·subst e;simp [l7,nth,wL]
  ·rw [←aa7 n q k (by omega)]
   simp [l7,nth,List.getElem?_append_left,wL,show k<q by omega]
theorem aln (n:Int) (q:Nat):0≤Af n q∧Af n q≤255:=by
 unfold Af
 rw [IntKind.wrap_u8]
 omega
def Ah (id:Int):Int:=if 0≤id∧id≤1073741824 then
 bits .xor .i64 ((Ag (l7 id 4) 4).fdiv (2 ^ (min 16 64))) (bits .and .i64 (Ag (l7 id 4) 4) 65535) else 0
theorem aa8 (id:Int):Fn Tryz.prog 347 [I id] [] (I (Ah id)) [] []:=by
 refine Fn.aN ai0 (by simp) ?_
 unfold Tj SC.mk' Ah
 by_cases h1:id<0
 ·simp only [h1,decide_true,if_neg (show ¬ (0≤id∧id≤1073741824) by omega),go_sem]
  exact Fin.bQ _ rfl rfl rfl rfl
 by_cases h2:1073741824<id
 ·simp only [h1,h2,decide_true,decide_false,if_neg (show ¬ (0≤id∧id≤1073741824) by omega),go_sem]
  exact Fin.bQ _ rfl rfl rfl rfl
 simp only [h1,h2,decide_false,if_pos (show (0≤id∧id≤1073741824) by omega),go_sem]
 refine aO (alk id (by omega) (by omega)) rfl rfl ?_
 simp only [go_sem]
 have aa9:=alm (l7 id 4) (by rw [wL];omega) (fun k hk=>⟨Af id k,aln id k,aa7 id 4 k (by rw [wL] at hk;exact hk)⟩)
 rw [wL] at aa9
 refine aO aa9 rfl rfl ?_
 simp only [Int.reduceToNat,go_sem]
 exact ⟨by omega,Fin.bQ _ rfl rfl rfl rfl⟩
end Go.Eng
namespace Go.Eng
open Go Go.Proofs
def Fh (l:List Int) (a:Nat):ByteArray:=Wn l (nN l a 4) (nV l a 4).toNat
def Wq (l:List Int) (a:Nat):Nat:=qh l (nN l a 4) (nV l a 4).toNat
theorem alo (l:List Int) (a:Nat) (hl:l.length≤4000):Fn Tryz.prog 96 [.ptr 0 0] [eU l a] (.v (.string (Fh l a))) [eU l (Wq l a)] []:=alj l a hl
def ai.ok (m:ai):Prop:=(1≤m.id∧m.id≤1073741824)∧(0≤m.route∧m.route≤65535)∧(0≤m.epoch∧m.epoch≤1000)∧(0≤m.count∧m.count≤3)∧(m.count≤m.gen∧m.gen≤65536)∧(0≤m.sent∧m.sent≤1000)∧m.body.size≤3
end Go.Eng
namespace Go.Eng
open Go Go.Proofs
def ve (x lo hi:Int):Bool:=decide (lo≤x)&&decide (x≤hi)
theorem alp (x lo hi:Int):Fn Tryz.prog 148 [I x,I lo,I hi] [] (Bo (ve x lo hi)) [] []:=by
 refine Fn.aN aiB (by simp) ?_
 unfold Sj SC.mk'
 simp only [go_sem]
 refine dL (fun h1=> ?_) (fun h1=> ?_)
 ·simp only [h1,go_sem]
  refine Fin.bQ _ rfl rfl rfl ?_
  simp only [ay,ve]
  simp_all<;>omega
 ·simp only [h1,go_sem]
  refine Fin.bQ _ rfl rfl rfl ?_
  simp only [ay,ve]
  simp_all<;>omega
def ai.good (m:ai):Bool:=ve m.id 1 1073741824&&(ve m.route 0 65535&&(ve m.epoch 0 65536&&(ve m.count 0 8&&(ve m.gen m.count 65536&&ve m.sent 0 1073741824))))
def ai.val (m:ai):Int:=if m.good then (if 16<m.body.size then 2 else 0) else 1
theorem yG (m:ai):Fn Tryz.prog 78 [.agg m.enc] [] (I m.val) [] []:=by
 refine Fn.aN ain (by simp) ?_
 unfold s78 SC.mk' ai.enc
 simp only [go_sem]
 repeat' first
  |(refine dL (fun h1=> ?_) (fun h1=> ?_)<;>simp only [h1,go_sem])
  |(refine bF (fun h1=> ?_) (fun h1=> ?_)<;>simp only [h1,go_sem])
  |(refine aO (alp _ _ _) rfl rfl ?_;simp only [go_sem])
  |refine Fin.bQ _ rfl rfl rfl ?_
 all_goals simp_all [ai.val,ai.good,ay]<;>omega
end Go.Eng
