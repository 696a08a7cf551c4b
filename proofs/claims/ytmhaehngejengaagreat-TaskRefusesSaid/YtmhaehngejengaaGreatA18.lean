/-
  Part of a proof: lemmas and definitions of this work.
  No condition.
-/
import Derived.Test.YtmhaehngejengaaGreatA12
import Derived.Test.YtmhaehngejengaaGreatA17
set_option linter.all false
set_option maxRecDepth 100000
set_option maxHeartbeats 8000000
namespace Go.Eng
open Go
def gS (l:List Span) (i:Nat):Span:=l[i]?.getD Span.z
def yU (slot:Int):List Span→Nat→Int
 |[],_=> -1
 |x::r,i=>if x.shard==slot then i else yU slot r (i+1)
def Dir.idx (d:Dir) (slot:Int):Int:=yU slot d.l 0
def Dir.new (slots live:Int):Dir×Int:=if decide (live<1)||(decide (slots<live)||decide (6<slots)) then (Dir.z,1)
 else (⟨1,(List.range live.toNat).map fun i:Nat=>⟨((i:Int)*65536).tdiv live,(((i:Int)+1)*65536).tdiv live - 1,(i:Int)⟩,List.replicate slots.toNat (-1)⟩,0)
def gI (l:List Int) (i:Nat):Int:=l[i]?.getD 0
def aJ (f:List Int):Nat→Int→Int
 |0,at_=>at_
 |k+1,at_=>if 0≤at_ then aJ f k (gI f at_.toNat) else at_
def vz (d:Dir):List Int→Nat→Int
 |[],_=>0
 |_::r,i=>if 0≤aJ d.aJ d.aJ.length i then 7 else vz d r (i+1)
def wW (d:Dir):List Int→Nat→Int
 |[],_=>vz d d.aJ 0
 |x::r,i=>if decide (x< -1)||(decide ((d.aJ.length:Int)≤x)||(decide (0≤d.idx i)&&x != -1)) then 7 else wW d r (i+1)
def yV (d:Dir):List Span→Nat→Int
 |[],_=>wW d d.aJ 0
 |x::r,i=>if d.idx x.shard !=i then 10 else yV d r (i+1)
def wX (d:Dir):List Span→Int
 |[]=>yV d d.l 0
 |x::r=>if decide (x.shard<0)||decide ((d.aJ.length:Int)≤x.shard) then 4 else wX d r
def mM (d:Dir):List Span→Int→Int
 |[],next=>if next !=65536 then 7 else wX d d.l
 |x::r,next=>if x.low !=next||(decide (x.high<x.low)||decide (65536≤x.high)) then 7 else mM d r (x.high+1)
def Dir.val (d:Dir):Int:=if decide (d.version<1)||(decide (1099511627776<d.version)||(decide ((d.aJ.length:Int)<1)||decide (6<(d.aJ.length:Int)))) then 1 else mM d d.l 0
def AQ (route:Int):List Span→Int
 |[]=> -1
 |x::r=>if x.low≤route∧route≤x.high then x.shard else AQ route r
def Dir.owner (d:Dir) (route:Int):Int:=if d.val≠0 then -1 else AQ route d.l
def Dir.span (d:Dir) (slot:Int):Span×Bool:=if d.val≠0∨d.idx slot<0 then (Span.z,false) else (gS d.l (d.idx slot).toNat,true)
def yX (d:Dir):Nat→Int→Int
 |0,slot=>slot
 |k+1,slot=>if 0≤slot∧d.idx slot<0 then yX d k (gI d.aJ slot.toNat) else slot
def Dir.home (d:Dir) (slot:Int):Int:=if d.val≠0∨slot<0∨(d.aJ.length:Int)≤slot then -1 else yX d 7 slot
def Dir.apply (d:Dir) (e:bT):Dir×Int:=if d.val≠0 then (Dir.z,d.val) else if d.version==1099511627776 then (Dir.z,6)
 else if e.kind !=1&&e.kind !=2 then (Dir.z,9)
 else if decide (e.bC<0)||(decide ((d.aJ.length:Int)≤e.bC)||(decide (e.to<0)||decide ((d.aJ.length:Int)≤e.to))) then (Dir.z,4)
 else
  let i:=d.idx e.bC
  let k:=d.idx e.to
  if e.kind==1 then
   (if decide (i<0)||decide (0≤k) then (Dir.z,7) else
    let s:=gS d.l i.toNat
    if decide (e.mid<s.low)||decide (s.high≤e.mid) then (Dir.z,1)
    else (⟨d.version+1,d.l.take i.toNat++⟨s.low,e.mid,e.bC⟩::⟨e.mid+1,s.high,e.to⟩::d.l.drop (i.toNat+1),d.aJ.set e.to.toNat (-1)⟩,0))
  else if decide (i<0)||(decide (k<0)||(i - k !=1&&k - i !=1)) then (Dir.z,7)
  else
   let f:=(min i k).toNat
   (⟨d.version+1,d.l.take f++⟨(gS d.l f).low,(gS d.l (f+1)).high,e.to⟩::d.l.drop (f+2),d.aJ.set e.bC.toNat e.to⟩,0)
def aH.begin (s:aH):aH×Int:=if decide (s.seq<0)||decide (1099511627776<s.seq) then (aH.z,1) else if s.seq.tmod 2==1 then (aH.z,7)
 else if 1099511627774<s.seq then (aH.z,6) else ({s with seq:=s.seq+1},0)
def aH.done (s:aH) (x:aj) (epoch limit:Int):aH×Int:=if decide (s.seq<0)||decide (1099511627776<s.seq) then (aH.z,1) else if s.seq.tmod 2==0 then (aH.z,7)
 else if x.val≠0 then (aH.z,x.val) else if decide (epoch<0)||(decide (65536<epoch)||(decide (limit<1)||decide (8<limit))) then (aH.z,1)
 else (⟨s.seq+1,epoch,(x.counts epoch limit).1,(x.counts epoch limit).2⟩,0)
def Dq (l:List aH):Bool:=l.all fun s=>s.seq.tmod 2==0
def cN (n:Int):Bool:=decide (0≤n)&&decide (n≤1099511627776)
def vC (epoch:Int):List aH→Int→Int→Int×Int
 |[],r,l=>(r,l)
 |s::t,r,l=>if s.epoch==epoch&&(cN s.seq&&(cN s.ready&&cN s.fB)) then vC epoch t (IntKind.i64.wrap (r+s.ready)) (IntKind.i64.wrap (l+s.fB)) else vC epoch t r l
def aH.same (a b:aH):Bool:=(a.seq==b.seq)&&((a.epoch==b.epoch)&&((a.ready==b.ready)&&(a.fB==b.fB)))
def wY:List aH→List aH→Bool
 |[],[]=>true
 |a::l,b::m=>a.same b&&wY l m
 |_,_=>false
def inB (n low high:Int):Bool:=decide (low≤n)&&decide (n≤high)
def Setup.good (s:Setup):Bool:=inB s.slots 1 6&&(inB s.live 1 s.slots&&(inB s.capacity 1 12&&(inB s.dead 1 24&&(inB s.limit 1 8&&(inB s.clock 0 1073741824&&(inB s.fQ 1 1073741824&&inB s.epoch 0 65536))))))
def Oq (s:Setup) (i:Nat):Slot:=if (i:Int)<s.live then ⟨0,(aj.new s.capacity (gS (Dir.new s.slots s.live).1.l i).low (gS (Dir.new s.slots s.live).1.l i).high).1⟩ else ⟨0,(aj.free s.capacity).1⟩
def ak.new (s:Setup):ak×Int:=if !s.good then (ak.z,1)
 else (⟨(List.range s.slots.toNat).map (Oq s),List.replicate s.slots.toNat ⟨0,s.epoch,0,0⟩,⟨0,⟨s.dead,[]⟩⟩,(Dir.new s.slots s.live).1,s.epoch,s.clock,s.fQ⟩,0)
def ak.slot (a:ak) (i:Int):Bool:=decide (0≤i)&&decide (i<(a.slots.length:Int))
def yY (i:Int):Bool:=decide (1≤i)&&decide (i≤200)
def iU (l:List Slot) (i:Nat):Slot:=l[i]?.getD Slot.z
def jG (l:List aH) (i:Nat):aH:=l[i]?.getD aH.z
def ak.owner (a:ak) (cell:Int):Int:=if cell==a.slots.length then a.dead.owner else (iU a.slots cell.toNat).owner
def ak.own (a:ak) (cell who:Int):ak:=if cell==a.slots.length then {a with dead:={a.dead with owner:=who}}
 else {a with slots:=a.slots.set cell.toNat {iU a.slots cell.toNat with owner:=who}}
def ak.tryLock (a:ak) (cell who:Int):ak×Bool×Int:=if decide (cell<0)||(decide ((a.slots.length:Int)<cell)|| !yY who) then (ak.z,false,1)
 else if a.owner cell !=0 then (a,false,0) else (a.own cell who,true,0)
def ak.unlock (a:ak) (cell who:Int):ak×Int:=if decide (cell<0)||(decide ((a.slots.length:Int)<cell)|| !yY who) then (ak.z,1)
 else if a.owner cell !=who then (ak.z,13) else (a.own cell 0,0)
def ak.lD (a:ak) (i:Int):aj×Int:=if !a.slot i then (aj.z,1) else ((iU a.slots i.toNat).shard,0)
def ak.rP (a:ak) (i:Int):aH×Int:=if !a.slot i then (aH.z,1) else (jG a.cu i.toNat,0)
def ak.storable (a:ak) (i who:Int):Int:=if !a.slot i|| !yY who then 1 else if (iU a.slots i.toNat).owner !=who then 13 else 0
def ak.nC (a:ak) (i who:Int) (s:aj):ak×Int:=if a.storable i who≠0 then (ak.z,a.storable i who) else if s.val≠0 then (ak.z,s.val)
 else if s.ready.cells.length≠(iU a.slots i.toNat).shard.ready.cells.length then (ak.z,1)
 else ({a with slots:=a.slots.set i.toNat {iU a.slots i.toNat with shard:=s}},0)
def ak.jW (a:ak) (i who:Int) (s:aH):ak×Int:=if a.storable i who≠0 then (ak.z,a.storable i who)
 else if !(inB s.seq 0 1099511627776)||(!(inB s.epoch 0 1099511627776)||(!(inB s.ready 0 1099511627776)|| !(inB s.fB 0 1099511627776))) then (ak.z,1)
 else ({a with cu:=a.cu.set i.toNat s},0)
def Dead.val (d:Dead):Int:=jb d.cap d.l
def ak.nD (a:ak) (who:Int) (d:Dead):ak×Int:=if !yY who then (ak.z,1) else if a.dead.owner !=who then (ak.z,13) else if d.val≠0 then (ak.z,d.val)
 else if d.cap !=a.dead.dead.cap then (ak.z,1) else ({a with dead:={a.dead with dead:=d}},0)
def ak.qo (a:ak) (version:Int) (d:Dir):ak×Bool×Int:=if d.val≠0 then (ak.z,false,d.val) else if d.aJ.length≠a.slots.length then (ak.z,false,1)
 else if a.dir.version !=version then (a,false,0) else ({a with dir:=d},true,0)
def ak.load (a:ak) (word:Int):Int×Int:=if word==1 then (a.epoch,0) else if word==2 then (a.clock,0) else if word==3 then (a.fQ,0) else (0,9)
def ak.nG (a:ak) (word old next:Int):ak×Bool×Int:=if word !=1&&word !=3 then (ak.z,false,9)
 else if (word==1&& !inB next 0 65536)||(word==3&& !inB next 1 1073741824) then (ak.z,false,1)
 else if (a.load word).1 !=old then (a,false,0) else if word==1 then ({a with epoch:=next},true,0) else ({a with fQ:=next},true,0)
def ak.tick (a:ak) (eY:Int):ak×Int:=if !inB eY 0 1099511627776 then (ak.z,1) else if 1073741824<IntKind.i64.wrap (a.clock+eY) then (ak.z,6) else ({a with clock:=IntKind.i64.wrap (a.clock+eY)},0)
def nH:List Int→Int→Bool
 |[],_=>true
 |c::r,p=>(inB c 0 6&&decide (p<c))&&nH r c
def bf.new (cells:List Int):bf×Int:=if (cells.length:Int)==0||decide (3<(cells.length:Int)) then (bf.z,2) else if nH cells (-1) then (⟨cells,0,0,0,0⟩,0) else (bf.z,1)
def bf.step (a:ak) (l:bf) (task:Int):ak×bf×Int:=
 if l.phase==0 then
  (let x:=a.tryLock (gI l.cells l.got.toNat) task
   if x.2.2≠0 then (ak.z,bf.z,x.2.2)
   else if x.2.1 then (x.1,{l with got:=l.got+1,phase:=if l.got+1==l.cells.length then 3 else l.phase},0)
   else if 0<l.got then (x.1,{l with phase:=1},0) else (x.1,l,0))
 else if l.phase==1||l.phase==4 then
  (let x:=a.unlock (gI l.cells (l.got - 1).toNat) task
   if x.2≠0 then (ak.z,bf.z,x.2)
   else if 0<l.got - 1 then (x.1,{l with got:=l.got - 1},0)
   else if l.phase==4 then (x.1,{l with got:=l.got - 1,phase:=5},0)
   else (x.1,{l with got:=l.got - 1,tries:=IntKind.i64.wrap (l.tries+1),wait:=min (IntKind.i64.wrap (l.tries+1)) 3,phase:=2},0))
 else if l.phase==2 then (a,{l with wait:=IntKind.i64.wrap (l.wait - 1),phase:=if IntKind.i64.wrap (l.wait - 1)==0 then 0 else 2},0)
 else (ak.z,bf.z,7)
def bf.free (l:bf):bf×Int:=if l.phase !=3 then (bf.z,7) else ({l with phase:=4},0)
def dG.step (a:ak) (s:dG) (n:Int):dG×Int:=
 if s.phase==0 then ({s with epoch:=a.epoch,phase:=1},0) else if s.phase==1 then ({s with clock:=a.clock,stamp:=n,phase:=2},0)
 else if s.phase==2 then (if a.epoch==s.epoch then ({s with phase:=3},0) else ({s with epoch:=a.epoch,phase:=1},0))
 else if s.phase==3 then (dG.z,7) else (dG.z,1)
end Go.Eng
namespace Go.Eng
open Go
def ax.new (cells:List Int) (limit:Int):ax×Int:=if (bf.new cells).2≠0 then (ax.z,(bf.new cells).2) else if decide (limit<1)||decide (8<limit) then (ax.z,1)
 else ({ax.z with lock:=(bf.new cells).1,limit:=limit},0)
def ax.enter (s:ax) (ph:Int):ax:={s with phase:=ph,at_:=0}
def ax.slots (a:ak) (s:ax):Int:=oL (fun c:Int=>decide (c<(a.slots.length:Int))) s.lock.cells
def eH (l:List aj) (i:Nat):aj:=l[i]?.getD aj.z
def ax.mark (a:ak) (s:ax) (task:Int):ak×ax×Int:=
 let i:=(s.at_.tdiv 2).toNat
 let cell:=gI s.lock.cells i
 if s.at_.tmod 2==0 then (a,{s with cu:=s.cu++[(a.rP cell).1],at_:=s.at_+1},(a.rP cell).2)
 else
  let x:=(jG s.cu i).begin
  if x.2≠0 then (a,s,x.2) else
   let y:=a.jW cell task x.1
   let s':ax:={s with cu:=s.cu.take i++[x.1],at_:=s.at_+1}
   (y.1,if y.2==0&&s'.at_==2*ax.slots y.1 s' then s'.enter 2 else s',y.2)
def ax.load (a:ak) (s:ax):ak×ax×Int:=
 let cell:=gI s.lock.cells s.at_.toNat
 let y:ax×Int:=if cell==a.slots.length then ({s with dead:=a.dead.dead},0) else ({s with shards:=s.shards++[(a.lD cell).1]},(a.lD cell).2)
 let s':ax:={y.1 with at_:=s.at_+1}
 (a,if s'.at_==s'.lock.cells.length then s'.enter 3 else s',y.2)
def ax.jQ (s:ax):ax×Int:=if s.lock.free.2≠0 then (s,s.lock.free.2) else (ax.enter {s with lock:=s.lock.free.1} 8,0)
def ax.jH (s:ax):ax×Int:=if 0<s.cu.length then (s.enter 7,0) else s.jQ
def ax.store (a:ak) (s:ax) (task:Int):ak×ax×Int:=
 let k:=gI s.out.order s.at_.toNat
 let cell:=gI s.lock.cells k.toNat
 let y:=if cell==a.slots.length then a.nD task s.out.dead else a.nC cell task (eH s.out.shards k.toNat)
 if y.2≠0 then (y.1,s,y.2)
 else if s.at_+1<s.out.order.length then (y.1,{s with at_:=s.at_+1,carry:=s.out.carry},0)
 else if 0<s.out.dS.length then (y.1,ax.enter {s with carry:=[]} 6,0)
 else (y.1,(ax.jH {s with at_:=s.at_+1,carry:=[]}).1,(ax.jH {s with at_:=s.at_+1,carry:=[]}).2)
def gE (l:List bT) (i:Nat):bT:=l[i]?.getD bT.z
def ax.nI (a:ak) (s:ax):ak×ax×Int:=
 if s.at_==0 then (a,{s with dir:=a.dir,at_:=1},0)
 else
  let d:=s.dir.apply (gE s.out.dS 0)
  if d.2≠0 then (a,s,d.2) else
   let x:=a.qo s.dir.version d.1
   if x.2.2≠0 then (a,s,x.2.2) else if !x.2.1 then (x.1,{s with at_:=0},0)
   else (x.1,(ax.jH {s with dir:=d.1}).1,(ax.jH {s with dir:=d.1}).2)
def ax.AU (s:ax) (k:Int):Bool:=s.out.order.any fun x=>x==k
def ax.nJ (a:ak) (s:ax) (task:Int):ak×ax×Int:=
 let i:=s.at_.toNat
 let now:=if s.AU s.at_ then eH s.out.shards i else eH s.shards i
 let x:=(jG s.cu i).done now s.aG.epoch s.limit
 if x.2≠0 then (a,s,x.2) else
  let y:=a.jW (gI s.lock.cells i) task x.1
  if y.2≠0 then (y.1,s,y.2) else
   let s':ax:={s with at_:=s.at_+1}
   if s'.at_==s'.cu.length then (y.1,s'.jQ.1,s'.jQ.2) else (y.1,s',0)
def ax.step0 (a:ak) (s:ax) (task n:Int):ak×ax×Int:=
 if s.phase==0 then
  (let x:=s.lock.step a task
   let s':ax:={s with lock:=x.2.1}
   if x.2.2==0&&x.2.1.phase==3 then
    (x.1,if ax.slots a (s'.enter 1)==0 then (s'.enter 1).enter 2 else s'.enter 1,x.2.2)
   else (x.1,s',x.2.2))
 else if s.phase==1 then s.mark a task else if s.phase==2 then s.load a
 else if s.phase==3 then
  (let x:=s.aG.step a n
   let s':ax:={s with aG:=x.1}
   (a,if x.2==0&&x.1.phase==3 then s'.enter 4 else s',x.2))
 else if s.phase==5 then s.store a task else if s.phase==6 then s.nI a else if s.phase==7 then s.nJ a task
 else if s.phase==8 then
  (let x:=s.lock.step a task
   let s':ax:={s with lock:=x.2.1}
   (x.1,if x.2.2==0&&x.2.1.phase==5 then s'.enter 9 else s',x.2.2))
 else (a,s,7)
def ax.step (a:ak) (s:ax) (task n:Int):ak×ax×Int:=
 if (s.step0 a task n).2.2≠0 then (ak.z,ax.z,(s.step0 a task n).2.2) else ((s.step0 a task n).1,(s.step0 a task n).2.1,0)
def ax.bg (s:ax):bG:=⟨s.shards,s.dead,[],[],[]⟩
def jI (cells:List Int):List Int→List Int→Bool
 |[],_=>true
 |k::r,old=>(decide (0≤k)&&decide (k<(cells.length:Int)))&&(!(old.any fun x=>x==k)&&jI cells r (old++[k]))
def ax.vF (s:ax) (o:bG):ax×Int:=if s.phase !=4 then (ax.z,7)
 else if o.shards.length≠s.shards.length∨1<o.dS.length then (ax.z,1) else if jI s.lock.cells o.order []=false then (ax.z,1)
 else if 0<o.order.length then (ax.enter {s with out:=o} 5,0) else if 0<o.dS.length then (ax.enter {s with out:=o} 6,0)
 else ax.jH {s with out:=o}
def Walk.begin (route:Int):Walk×Int:=if decide (route<0)||decide (65536≤route) then (Walk.z,1) else (⟨route,0⟩,0)
def Walk.oN (w:Walk) (low high:Int):Walk×Int:=if decide (low<0)||(decide (w.next<low)||(decide (high<w.next)||(decide (65536≤high)||(decide (w.covered<0)||decide (65536≤w.covered))))) then (Walk.z,1)
 else (⟨(high+1).tmod 65536,w.covered+high - w.next+1⟩,0)
def Walk.over (w:Walk):Bool:=decide (65536≤w.covered)
def WN (l:List ByteArray):Bool:=l.any fun b=>decide (16<b.size)
def bV.val (i:bV) (s:Setup):Int:=
 let slot:=IntKind.i64.wrap (s.slots - 1)
 if i.kind==1 then (if (i.bodies.length:Int)==0||decide (6<(i.bodies.length:Int)) then 2 else if WN i.bodies then 2 else 0)
 else if i.kind==2||i.kind==8 then (if !inB i.home 0 slot||(!inB i.max_ 1 6||(i.kind==2&& !inB i.vis 0 1000)) then 1 else 0)
 else if i.kind==3||(i.kind==4||i.kind==5) then (if (i.tokens.length:Int)==0||decide (6<(i.tokens.length:Int)) then 2 else if i.kind==5&& !inB i.vis 0 1000 then 1 else 0)
 else if i.kind==9||(i.kind==10||i.kind==11) then (if !inB i.bC 0 slot||(!inB i.to 0 slot||i.bC==i.to) then 1 else 0)
 else if i.kind==12||i.kind==14 then (if !inB i.bC 0 slot then 1 else 0)
 else if i.kind==13 then (if decide (i.bC<0)||decide (s.slots<i.bC) then 1 else 0)
 else if i.kind==6||i.kind==7 then 0 else 9
def bV.entries (i:bV):Int:=if i.kind==1 then i.bodies.length else if i.kind==3||(i.kind==4||i.kind==5) then i.tokens.length else 1
def Task.start (number:Int) (i:bV) (s:Setup) (n:Int):Task×Int:=
 if decide (number<1)||(decide (200<number)||decide (n<0)) then (Task.z,1) else if (ak.new s).2≠0 then (Task.z,(ak.new s).2)
 else if i.val s≠0 then (Task.z,i.val s) else ({Task.z with number:=number,inv:=i,setup:=s,invoked:=n},0)
def Task.next (t:Task) (r:aV) (n:Int):Task:=
 {Task.z with number:=t.number,inv:=t.inv,setup:=t.setup,invoked:=t.invoked,entry:=t.entry+1,results:=t.results++[r],dn:=if t.entry+1==t.inv.entries then true else t.dn,ended:=if t.entry+1==t.inv.entries then n else t.ended}
abbrev iH:=ak×Task×List Ev×Int
def Task.guard (t:Task) (low high:Int):Int:=if t.dn then 7 else if decide (t.inv.kind<low)||decide (high<t.inv.kind) then 9 else 0
def fO (e:Int):iH:=(ak.z,Task.z,[],e)
def Task.fJ (t:Task) (cells:List Int) (pc:Int):Task:={t with sec:=(ax.new cells t.setup.limit).1,pc:=pc}
def jJ (a b:Int):List Int:=[min a b,max a b]
def Task.go (a:ak) (t:Task) (n:Int):ak×Task×Bool×Bool×Int:=
 let x:=t.sec.step a t.number n
 if x.2.2≠0 then (ak.z,Task.z,false,false,x.2.2) else (x.1,{t with sec:=x.2.1},x.2.1.phase==4,x.2.1.phase==9,0)
def Task.dec (t:Task) (o:bG):Task:={t with sec:=(t.sec.vF o).1}
def Task.ev (t:Task) (kind n:Int):Ev:={Ev.z with stamp:=n,task:=t.number,entry:=t.entry,kind:=kind}
def Task.kK (t:Task) (kind:Int):Ev:={Ev.z with stamp:=t.sec.aG.stamp,task:=t.number,entry:=t.entry,kind:=kind,now:=t.sec.aG.clock,epoch:=t.sec.aG.epoch}
def Task.look (a:ak) (t:Task) (route pc:Int):Task:=Task.fJ {t with dir:=a.dir,slot:=a.dir.owner route} [a.dir.owner route] pc
def gB (l:List ByteArray) (i:Nat):ByteArray:=l[i]?.getD ⟨#[]⟩
def nK (t:Task):Task×List Ev:=
 let s:=eH t.sec.shards 0
 let t1:Task:={t with loaded:=0}
 let o:=t.sec.bg
 if !s.owns t.walk.next then (t1.dec o,[])
 else
  let v:=t1.kK 2
  if s.stored==s.ready.cells.length then
   (let w:=(t.walk.oN s.low s.high).1
    let t2:Task:={t1 with walk:=w}
    if !w.over then (t2.dec o,[]) else (Task.dec {t2 with loaded:=2} o,[{v with err:=3,l:=[⟨t.id,0,0,0⟩]}]))
  else
   let m:=(ai.new t.id (Fg (Ah t.id) s.low s.high) t.sec.aG.epoch t.sec.aG.clock (gB t.inv.bodies t.entry.toNat)).1
   let x:=(s.put m).1
   (Task.dec {t1 with loaded:=1} {o with shards:=[x],order:=[0]},[{v with l:=[⟨t.id,0,m.route,0⟩]}])
def qp (a:ak) (t:Task) (n:Int):iH:=
 if t.guard 1 1≠0 then fO (t.guard 1 1)
 else if t.pc==0 then
  (let t1:Task:={t with loaded:=a.fQ}
   if a.fQ==1073741824 then (a,t1.next {aV.z with err:=6} n,[{t1.ev 2 n with err:=6}],0) else (a,{t1 with pc:=1},[],0))
 else if t.pc==1 then
  (let x:=a.nG 3 t.loaded (IntKind.i64.wrap (t.loaded+1))
   if x.2.2≠0 then fO x.2.2
   else if x.2.1 then (x.1,{t with id:=t.loaded,pc:=2,walk:=(Walk.begin (Ah t.loaded)).1},[],0) else (x.1,{t with pc:=0},[],0))
 else if t.pc==2 then (a,t.look a t.walk.next 3,[],0)
 else
  let x:=t.go a n
  if x.2.2.2.2≠0 then fO x.2.2.2.2
  else if x.2.2.1 then (x.1,(nK x.2.1).1,(nK x.2.1).2,0)
  else if !x.2.2.2.1 then (x.1,x.2.1,[],0)
  else if x.2.1.loaded==1 then (x.1,x.2.1.next {aV.z with id:=x.2.1.id} n,[],0)
  else if x.2.1.loaded==2 then (x.1,x.2.1.next {aV.z with err:=3} n,[],0)
  else (x.1,{x.2.1 with pc:=2},[],0)
end Go.Eng
namespace Go.Eng
open Go
def rQ (d:Dir) (home:Int):Int:=if 0≤d.home home then d.home home else d.owner 0
def lF (t:Task):aj×List Int×List Lease:=
 let s:=eH t.sec.shards 0
 let x:=s.expire t.sec.aG.clock t.sec.aG.epoch t.setup.limit
 let y:=x.1.take t.inv.max_ t.sec.aG.clock t.inv.vis t.sec.aG.epoch t.setup.limit
 (y.1,x.2.1,y.2.1)
def FN (h:Hd):List UInt8:=if h.ok then yM h else []
def AX (t:Task):aV:=
 {aV.z with tokens:=(lF t).2.2.map fun x=>FN ⟨x.msg.id,x.msg.gen,x.msg.route,t.slot⟩,bodies:=(lF t).2.2.map fun x=>x.msg.body}
def gW (l:List Int):List dD:=l.map fun id=>⟨id,0,0,0⟩
def kN (t:Task):Task×List Ev:=
 let s:=eH t.sec.shards 0
 let t1:Task:={t with loaded:=0}
 let o:=t.sec.bg
 if !s.owns t.walk.next then (t1.dec o,[])
 else
  let v:=t1.kK 3
  if 1073741824<IntKind.i64.wrap (t.sec.aG.clock+t.inv.vis) then (Task.dec {t1 with loaded:=3} o,[{v with err:=6}])
  else
   let x:=lF t1
   let e1:List Ev:=if 0<x.2.1.length then [{t1.kK 10 with l:=gW x.2.1}] else []
   let o':bG:=if 0<x.2.1.length∨0<x.2.2.length then {o with shards:=[x.1],order:=[0]} else o
   let w:=(t1.walk.oN s.low s.high).1
   if 0<x.2.2.length then (Task.dec {t1 with walk:=w,loaded:=1} o',e1++[{v with l:=x.2.2.map fun y=>⟨y.msg.id,y.msg.gen,y.msg.route,y.dl⟩}])
   else if w.over then (Task.dec {t1 with walk:=w,loaded:=2} o',e1++[v])
   else (Task.dec {t1 with walk:=w} o',e1)
def qw (a:ak) (t:Task) (n:Int):iH:=
 if t.guard 2 2≠0 then fO (t.guard 2 2)
 else if t.pc==0 then
  (let k:=rQ a.dir t.inv.home
   (a,Task.fJ {t with dir:=a.dir,slot:=k,walk:=(Walk.begin (a.dir.span k).1.low).1} [k] 1,[],0))
 else if t.pc==2 then (a,t.look a t.walk.next 1,[],0)
 else
  let x:=t.go a n
  if x.2.2.2.2≠0 then fO x.2.2.2.2
  else if x.2.2.1 then (x.1,(kN x.2.1).1,(kN x.2.1).2,0)
  else if !x.2.2.2.1 then (x.1,x.2.1,[],0)
  else if x.2.1.loaded==3 then (x.1,x.2.1.next {aV.z with err:=6} n,[],0)
  else if x.2.1.loaded==2 then (x.1,x.2.1.next aV.z n,[],0)
  else if x.2.1.loaded==1 then (x.1,x.2.1.next (AX x.2.1) n,[],0)
  else (x.1,{x.2.1 with pc:=2},[],0)
def setKind (op:Int):Int:=if op==3 then 4 else if op==4 then 5 else 6
def Ot (l:List (List UInt8)) (i:Nat):List UInt8:=l[i]?.getD []
def vG (b:List UInt8):Hd×Int:=match parse b with
 |some h=>(h,0)
 |none=>(Hd.z,8)
def settle (t:Task):aj×Int:=
 let s:=eH t.sec.shards 0
 if t.inv.kind==3 then s.AB t.hnd t.sec.aG.clock t.sec.aG.epoch
 else if t.inv.kind==4 then s.AL t.hnd t.sec.aG.clock t.sec.aG.epoch t.setup.limit
 else s.change t.hnd t.sec.aG.clock t.sec.aG.epoch t.inv.vis
def nM (t:Task):Task×List Ev:=
 let o:=t.sec.bg
 if !(eH t.sec.shards 0).owns t.hnd.route then (t.dec o,[])
 else
  let v:=t.kK (setKind t.inv.kind)
  let x:=settle t
  let g:dD:=⟨t.hnd.id,t.hnd.gen,t.hnd.route,if x.2==0&&t.inv.kind==5 then IntKind.i64.wrap (t.sec.aG.clock+t.inv.vis) else 0⟩
  (t.dec (if x.2==0 then {o with shards:=[x.1],order:=[0]} else o),[{v with err:=x.2,l:=[g]}])
def nO (a:ak) (t:Task) (n:Int):iH:=
 if t.guard 3 5≠0 then fO (t.guard 3 5)
 else if t.pc==0 then
  (let x:=vG (Ot t.inv.tokens t.entry.toNat)
   if x.2≠0 then (a,t.next {aV.z with err:=5} n,[{t.ev (setKind t.inv.kind) n with err:=5}],0)
   else (a,if x.1.hint<t.setup.slots then Task.fJ {t with hnd:=x.1,pc:=1} [x.1.hint] 2 else {t with hnd:=x.1,pc:=1},[],0))
 else if t.pc==1 then (a,t.look a t.hnd.route 2,[],0)
 else
  let x:=t.go a n
  if x.2.2.2.2≠0 then fO x.2.2.2.2
  else if x.2.2.1 then (x.1,(nM x.2.1).1,(nM x.2.1).2,0)
  else if !x.2.2.2.1 then (x.1,x.2.1,[],0)
  else if !(eH x.2.1.sec.shards 0).owns x.2.1.hnd.route then (x.1,{x.2.1 with pc:=1},[],0)
  else (x.1,x.2.1.next {aV.z with err:=(settle x.2.1).2,id:=if (settle x.2.1).2==0 then x.2.1.hnd.id else 0} n,[],0)
def qx (a:ak) (t:Task) (n:Int):iH:=
 if t.guard 6 6≠0 then fO (t.guard 6 6)
 else if t.pc==0 then
  (let t1:Task:={t with loaded:=a.epoch}
   if a.epoch==65536 then (a,t1.next {aV.z with err:=6} n,[{t.ev 7 n with err:=6}],0) else (a,{t1 with pc:=1},[],0))
 else
  let x:=a.nG 1 t.loaded (IntKind.i64.wrap (t.loaded+1))
  if x.2.2≠0 then fO x.2.2 else if !x.2.1 then (x.1,{t with pc:=0},[],0)
  else (x.1,t.next aV.z n,[{t.ev 7 n with epoch:=IntKind.i64.wrap (t.loaded+1)}],0)
def qy (a:ak) (t:Task) (n:Int):iH:=
 if t.guard 7 7≠0 then fO (t.guard 7 7)
 else if t.pc==0 then (a,{t with loaded:=a.epoch,first:=[],second:=[],pc:=1},[],0)
 else if t.pc==1 then
  (let x:=a.rP t.first.length
   if x.2≠0 then fO x.2 else
    let t1:Task:={t with first:=t.first++[x.1]}
    (a,if (t1.first.length:Int)==t.setup.slots then {t1 with pc:=if Dq t1.first then 2 else 0} else t1,[],0))
 else if t.pc==2 then
  (let x:=a.rP t.second.length
   if x.2≠0 then fO x.2 else
    let t1:Task:={t with second:=t.second++[x.1],id:=if (t.second.length:Int)==0 then n else t.id}
    (a,if (t1.second.length:Int)==t.setup.slots then {t1 with pc:=if wY t1.first t1.second then 3 else 0} else t1,[],0))
 else if a.epoch !=t.loaded then (a,{t with pc:=0},[],0)
 else
  let x:=vC a.epoch t.first 0 0
  (a,t.next {aV.z with ready:=x.1,fB:=x.2} n,[{t.ev 8 t.id with epoch:=a.epoch,ready:=x.1,fB:=x.2}],0)
def Dead.take (d:Dead) (k epoch:Int):Dead×List ai×Int:=if d.val≠0 then (Dead.z,[],d.val) else if decide (k<0)||(decide (epoch<0)||decide (65536<epoch)) then (Dead.z,[],1)
 else (⟨d.cap,(tk k epoch d.l).2⟩,(tk k epoch d.l).1,0)
def wZ (t:Task):Int:=let s:=eH t.sec.shards 0;min t.inv.max_ (IntKind.i64.wrap (s.ready.cells.length - s.stored))
def nP (t:Task):Task×List Ev:=
 let s:=eH t.sec.shards 0
 let o:=t.sec.bg
 if !s.live then (t.dec o,[])
 else
  let v:=t.kK 9
  if wZ t==0 then (t.dec o,[{v with err:=3}])
  else
   let x:=t.sec.dead.take (wZ t) t.sec.aG.epoch
   if x.2.1.length=0 then (t.dec o,[v])
   else
    let c:=x.2.1.map ai.iQ
    (t.dec ⟨[(s.vk c).1],x.1,[1,0],c,[]⟩,[{v with l:=c.map fun m=>⟨m.id,m.gen,(m.rM s.low s.high).route,0⟩}])
def qA (a:ak) (t:Task) (n:Int):iH:=
 if t.guard 8 8≠0 then fO (t.guard 8 8)
 else if t.pc==0 then (a,Task.fJ {t with dir:=a.dir,slot:=rQ a.dir t.inv.home} [rQ a.dir t.inv.home,t.setup.slots] 1,[],0)
 else
  let x:=t.go a n
  if x.2.2.2.2≠0 then fO x.2.2.2.2
  else if x.2.2.1 then (x.1,(nP x.2.1).1,(nP x.2.1).2,0)
  else if !x.2.2.2.1 then (x.1,x.2.1,[],0)
  else if !(eH x.2.1.sec.shards 0).live then (x.1,{x.2.1 with pc:=0},[],0)
  else (x.1,x.2.1.next {aV.z with moved:=x.2.1.sec.out.carry.length,err:=if wZ x.2.1==0 then 3 else 0} n,[],0)
abbrev tV:=bG×aV×List Ev
def jm (t:Task):List Int:=if t.inv.bC<t.inv.to then [0,1] else [1,0]
def kP (t:Task):aj:=eH t.sec.shards (if t.inv.bC<t.inv.to then 0 else 1)
def mO (t:Task):aj:=eH t.sec.shards (if t.inv.bC<t.inv.to then 1 else 0)
def placed (t:Task) (x y:aj):List aj:=if t.inv.bC<t.inv.to then [x,y] else [y,x]
def tX (t:Task):tV:=
 let o:=t.sec.bg
 let v:=kP t
 let w:=mO t
 if !v.live|| !w.live then (o,{aV.z with err:=7},[])
 else
  let k:=min ((IntKind.i64.wrap (v.ready.size+1)).tdiv 2) (IntKind.i64.wrap (w.ready.cells.length - w.stored))
  if k==0 then (o,aV.z,[])
  else
   let x:=v.jg k
   (⟨placed t x.1 (w.vk x.2.1).1,o.dead,jm t,x.2.1,[]⟩,{aV.z with moved:=k},[])
def tY (t:Task):tV:=
 let o:=t.sec.bg
 let s:=kP t
 if !s.live||((mO t).live||decide (s.high≤s.low)) then (o,{aV.z with err:=7},[])
 else
  let mid:=(IntKind.i64.wrap (s.low+s.high)).tdiv 2
  let x:=s.divide mid
  (⟨placed t x.1 x.2.1,o.dead,jm t,x.2.1.all,[⟨1,t.inv.bC,t.inv.to,mid⟩]⟩,{aV.z with moved:=x.2.1.stored},[])
def tZ (t:Task):tV:=
 let o:=t.sec.bg
 let s:=kP t
 let y:=(mO t).yT s
 if y.2≠0 then (o,{aV.z with err:=y.2},[])
 else (⟨placed t (aj.free s.ready.cells.length).1 y.1,o.dead,jm t,s.all,[⟨2,t.inv.bC,t.inv.to,0⟩]⟩,{aV.z with moved:=s.stored},[])
def Dead.clean (d:Dead) (epoch:Int):Dead×Int×Int:=if d.val≠0 then (Dead.z,0,d.val) else if decide (epoch<0)||decide (65536<epoch) then (Dead.z,0,1)
 else (⟨d.cap,d.l.filter fun m=> !m.iV epoch⟩,(d.l.length:Int) - (d.l.filter fun m=> !m.iV epoch).length,0)
def qB (t:Task):tV:=
 let o:=t.sec.bg
 if t.sec.shards.length=0 then
  (let x:=t.sec.dead.clean t.sec.aG.epoch
   (if 0<x.2.1 then {o with dead:=x.1,order:=[0]} else o,{aV.z with moved:=x.2.1},[]))
 else
  let s:=eH t.sec.shards 0
  if !s.live then (o,{aV.z with err:=7},[])
  else if t.inv.kind==13 then
   (let x:=s.clean t.sec.aG.epoch
    (if 0<x.2.1 then {o with shards:=[x.1],order:=[0]} else o,{aV.z with moved:=x.2.1},[]))
  else
   let x:=s.expire t.sec.aG.clock t.sec.aG.epoch t.setup.limit
   if x.2.1.length=0 then (o,aV.z,[])
   else ({o with shards:=[x.1],order:=[0]},{aV.z with moved:=x.2.1.length},[{t.kK 10 with l:=gW x.2.1}])
def Dead.room (d:Dead):Int:=Aj d.cap d.l
def Dead.put (d:Dead) (l:List ai):Dead×Int:=if d.val≠0 then (Dead.z,d.val) else if d.room<l.length then (Dead.z,3) else if jf (d.l++l)≠0 then (Dead.z,jf (d.l++l)) else (⟨d.cap,d.l++l⟩,0)
def qC (t:Task):tV:=
 let o:=t.sec.bg
 let s:=eH t.sec.shards 0
 if !s.live then (o,{aV.z with err:=7},[])
 else
  let x:=s.tK t.sec.dead.room t.sec.aG.epoch t.setup.limit
  if x.2.1.length=0 then (o,aV.z,[])
  else (⟨[x.1],(t.sec.dead.put x.2.1).1,[0,1],x.2.1,[]⟩,{aV.z with moved:=x.2.1.length},[])
def jX (plan:Task→tV) (lo hi:Int) (cells:Task→List Int) (a:ak) (t:Task) (n:Int):iH:=
 if t.guard lo hi≠0 then fO (t.guard lo hi)
 else
  let t1:=if t.pc==0 then t.fJ (cells t) 1 else t
  let x:=t1.go a n
  if x.2.2.2.2≠0 then fO x.2.2.2.2
  else if x.2.2.1 then (x.1,x.2.1.dec (plan x.2.1).1,(plan x.2.1).2.2,0)
  else if !x.2.2.2.1 then (x.1,x.2.1,[],0)
  else (x.1,x.2.1.next (plan x.2.1).2.1 n,[],0)
def pairT (t:Task):List Int:=jJ t.inv.bC t.inv.to
def AY:=jX tX 9 9 pairT
def AZ:=jX tY 10 10 pairT
def A7:=jX tZ 11 11 pairT
def yZ:=jX qB 12 13 fun t=>[t.inv.bC]
def A8:=jX qC 14 14 fun t=>[t.inv.bC,t.setup.slots]
def fK (a:ak) (t:Task) (n:Int):iH:=
 if t.dn then fO 7 else if t.inv.kind==1 then qp a t n else if t.inv.kind==2 then qw a t n
 else if t.inv.kind==3||(t.inv.kind==4||t.inv.kind==5) then nO a t n else if t.inv.kind==6 then qx a t n else if t.inv.kind==7 then qy a t n
 else if t.inv.kind==8 then qA a t n else if t.inv.kind==9 then AY a t n else if t.inv.kind==10 then AZ a t n else if t.inv.kind==11 then A7 a t n
 else if t.inv.kind==12||t.inv.kind==13 then yZ a t n else if t.inv.kind==14 then A8 a t n else fO 9
def aK.new (s:Setup):aK×Int:=if (ak.new s).2≠0 then (aK.z,(ak.new s).2) else ({aK.z with setup:=s,arena:=(ak.new s).1},0)
def opn:List Task→Nat→List Int
 |[],_=>[]
 |t::r,i=>if t.dn then opn r (i+1) else (i:Int)::opn r (i+1)
def aK.opn (w:aK):List Int:=Go.Eng.opn w.tasks 0
def aK.invoke (w:aK) (i:bV):aK×Int×Int:=
 if decide (200≤(w.tasks.length:Int))||decide (8≤(w.opn.length:Int)) then (aK.z,0,3)
 else
  let n:Int:=w.tasks.length+1
  let x:=Task.start n i w.setup w.steps
  if x.2≠0 then (aK.z,0,x.2) else ({w with tasks:=w.tasks++[x.1]},n,0)
def gT (l:List Task) (i:Nat):Task:=l[i]?.getD Task.z
def aK.step (w:aK) (i:Nat):aK×Int:=
 let t:=gT w.tasks i
 let x:=fK w.arena t (IntKind.i64.wrap (w.steps+1))
 if x.2.2.2≠0 then (aK.z,x.2.2.2)
 else ({w with steps:=IntKind.i64.wrap (w.steps+1),arena:=x.1,tasks:=w.tasks.set i x.2.1,log:=w.log++x.2.2.1,handles:=w.handles++((x.2.1.results.drop t.results.length).map aV.tokens).flatten},0)
def aK.pick (w:aK) (k:Int):aK×Int:=if decide (k<0)||decide ((w.opn.length:Int)≤k) then (aK.z,4) else w.step (gI w.opn k.toNat).toNat
def aK.tick (w:aK) (eY:Int):aK×Int:=if (w.arena.tick eY).2≠0 then (aK.z,(w.arena.tick eY).2)
 else ({w with steps:=IntKind.i64.wrap (w.steps+1),arena:=(w.arena.tick eY).1,log:=w.log++[{Ev.z with stamp:=IntKind.i64.wrap (w.steps+1),kind:=1,now:=(w.arena.tick eY).1.clock}]},0)
def rU (k:Int):Nat→aK→aK×Int
 |0,w=>(w,0)
 |f+1,w=>if w.opn.length=0 then (w,0) else if (w.pick ((max k 0).tmod w.opn.length)).2≠0 then (aK.z,(w.pick ((max k 0).tmod w.opn.length)).2) else rU k f (w.pick ((max k 0).tmod w.opn.length)).1
def aK.oO (w:aK) (c:bI):aK×Int:=
 let b:=max 0 (min c.eY 255)
 if c.kind==1 then rU c.pick b.toNat w
 else if c.kind==2 then (if (w.tick b).2==0 then ((w.tick b).1,0) else (w,0))
 else if c.kind==3 then
  (let v:bV:=if 0<c.refs.length then {c.inv with tokens:=c.refs.map fun r=>Az r.index r.variant r.raw w.handles} else c.inv
   if (w.invoke v).2.2==0 then ((w.invoke v).1,0) else (w,0))
 else (w,0)
def FO:List bI→aK→aK×Int
 |[],w=>(w,0)
 |c::r,w=>if (w.oO c).2≠0 then (aK.z,(w.oO c).2) else FO r (w.oO c).1
def aK.run (s:Setup) (l:List bI):aK×Int:=if (aK.new s).2≠0 then (aK.z,(aK.new s).2) else if (400:Int)<l.length then (aK.z,2) else FO l (aK.new s).1
end Go.Eng
