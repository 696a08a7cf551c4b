/-
  Part of a proof: lemmas and definitions of this work.
  No condition.
-/
import Derived.Test.YthhjbngoibmpgaaGreatA08
import Derived.Test.YthhjbngoibmpgaaGreatA12
set_option linter.all false
set_option maxRecDepth 100000
set_option maxHeartbeats 8000000
namespace Go.Eng
open Go
def av.new (cells:List Int) (limit:Int):av×Int:=if (bf.new cells).2≠0 then (av.z,(bf.new cells).2) else if decide (limit<1)||decide (8<limit) then (av.z,1)
 else ({av.z with lock:=(bf.new cells).1,limit:=limit},0)
def av.enter (s:av) (ph:Int):av:={s with phase:=ph,at_:=0}
def av.slots (a:aj) (s:av):Int:=mY (fun c:Int=>decide (c<(a.slots.length:Int))) s.lock.cells
def dW (l:List ak) (i:Nat):ak:=l[i]?.getD ak.z
def av.mark (a:aj) (s:av) (task:Int):aj×av×Int:=
 let i:=(s.at_.tdiv 2).toNat
 let cell:=gI s.lock.cells i
 if s.at_.tmod 2==0 then (a,{s with bU:=s.bU++[(a.ql cell).1],at_:=s.at_+1},(a.ql cell).2)
 else
  let x:=(iZ s.bU i).begin
  if x.2≠0 then (a,s,x.2) else
   let y:=a.jA cell task x.1
   let s':av:={s with bU:=s.bU.take i++[x.1],at_:=s.at_+1}
   (y.1,if y.2==0&&s'.at_==2*av.slots y.1 s' then s'.enter 2 else s',y.2)
def av.load (a:aj) (s:av):aj×av×Int:=
 let cell:=gI s.lock.cells s.at_.toNat
 let y:av×Int:=if cell==a.slots.length then ({s with dead:=a.dead.dead},0) else ({s with aN:=s.aN++[(a.kE cell).1]},(a.kE cell).2)
 let s':av:={y.1 with at_:=s.at_+1}
 (a,if s'.at_==s'.lock.cells.length then s'.enter 3 else s',y.2)
def av.jl (s:av):av×Int:=if s.lock.free.2≠0 then (s,s.lock.free.2) else (av.enter {s with lock:=s.lock.free.1} 8,0)
def av.ja (s:av):av×Int:=if 0<s.bU.length then (s.enter 7,0) else s.jl
def av.store (a:aj) (s:av) (task:Int):aj×av×Int:=
 let k:=gI s.out.order s.at_.toNat
 let cell:=gI s.lock.cells k.toNat
 let y:=if cell==a.slots.length then a.lX task s.out.dead else a.lW cell task (dW s.out.aN k.toNat)
 if y.2≠0 then (y.1,s,y.2)
 else if s.at_+1<s.out.order.length then (y.1,{s with at_:=s.at_+1,carry:=s.out.carry},0)
 else if 0<s.out.dO.length then (y.1,av.enter {s with carry:=[]} 6,0)
 else (y.1,(av.ja {s with at_:=s.at_+1,carry:=[]}).1,(av.ja {s with at_:=s.at_+1,carry:=[]}).2)
def gE (l:List bL) (i:Nat):bL:=l[i]?.getD bL.z
def av.l6 (a:aj) (s:av):aj×av×Int:=
 if s.at_==0 then (a,{s with dir:=a.dir,at_:=1},0)
 else
  let d:=s.dir.apply (gE s.out.dO 0)
  if d.2≠0 then (a,s,d.2) else
   let x:=a.oJ s.dir.version d.1
   if x.2.2≠0 then (a,s,x.2.2) else if !x.2.1 then (x.1,{s with at_:=0},0)
   else (x.1,(av.ja {s with dir:=d.1}).1,(av.ja {s with dir:=d.1}).2)
def av.yY (s:av) (k:Int):Bool:=s.out.order.any fun x=>x==k
def av.l7 (a:aj) (s:av) (task:Int):aj×av×Int:=
 let i:=s.at_.toNat
 let now:=if s.yY s.at_ then dW s.out.aN i else dW s.aN i
 let x:=(iZ s.bU i).done now s.aI.epoch s.limit
 if x.2≠0 then (a,s,x.2) else
  let y:=a.jA (gI s.lock.cells i) task x.1
  if y.2≠0 then (y.1,s,y.2) else
   let s':av:={s with at_:=s.at_+1}
   if s'.at_==s'.bU.length then (y.1,s'.jl.1,s'.jl.2) else (y.1,s',0)
def av.step0 (a:aj) (s:av) (task n:Int):aj×av×Int:=
 if s.phase==0 then
  (let x:=s.lock.step a task
   let s':av:={s with lock:=x.2.1}
   if x.2.2==0&&x.2.1.phase==3 then
    (x.1,if av.slots a (s'.enter 1)==0 then (s'.enter 1).enter 2 else s'.enter 1,x.2.2)
   else (x.1,s',x.2.2))
 else if s.phase==1 then s.mark a task else if s.phase==2 then s.load a
 else if s.phase==3 then
  (let x:=s.aI.step a n
   let s':av:={s with aI:=x.1}
   (a,if x.2==0&&x.1.phase==3 then s'.enter 4 else s',x.2))
 else if s.phase==5 then s.store a task else if s.phase==6 then s.l6 a else if s.phase==7 then s.l7 a task
 else if s.phase==8 then
  (let x:=s.lock.step a task
   let s':av:={s with lock:=x.2.1}
   (x.1,if x.2.2==0&&x.2.1.phase==5 then s'.enter 9 else s',x.2.2))
 else (a,s,7)
def av.step (a:aj) (s:av) (task n:Int):aj×av×Int:=
 if (s.step0 a task n).2.2≠0 then (aj.z,av.z,(s.step0 a task n).2.2) else ((s.step0 a task n).1,(s.step0 a task n).2.1,0)
def av.bg (s:av):bD:=⟨s.aN,s.dead,[],[],[]⟩
def jb (cells:List Int):List Int->List Int->Bool
 |[],_=>true
 |k::r,old=>(decide (0<=k)&&decide (k<(cells.length:Int)))&&(!(old.any fun x=>x==k)&&jb cells r (old++[k]))
def av.tu (s:av) (o:bD):av×Int:=if s.phase !=4 then (av.z,7)
 else if o.aN.length≠s.aN.length\/1<o.dO.length then (av.z,1) else if jb s.lock.cells o.order []=false then (av.z,1)
 else if 0<o.order.length then (av.enter {s with out:=o} 5,0) else if 0<o.dO.length then (av.enter {s with out:=o} 6,0)
 else av.ja {s with out:=o}
def Walk.begin (route:Int):Walk×Int:=if decide (route<0)||decide (65536<=route) then (Walk.z,1) else (⟨route,0⟩,0)
def Walk.ng (w:Walk) (low high:Int):Walk×Int:=if decide (low<0)||(decide (w.next<low)||(decide (high<w.next)||(decide (65536<=high)||(decide (w.covered<0)||decide (65536<=w.covered))))) then (Walk.z,1)
 else (⟨(high+1).tmod 65536,w.covered+high - w.next+1⟩,0)
def Walk.over (w:Walk):Bool:=decide (65536<=w.covered)
def VS (l:List ByteArray):Bool:=l.any fun b=>decide (16<b.size)
def bM.val (i:bM) (s:Setup):Int:=
 let slot:=IntKind.i64.wrap (s.slots - 1)
 if i.kind==1 then (if (i.bodies.length:Int)==0||decide (6<(i.bodies.length:Int)) then 2 else if VS i.bodies then 2 else 0)
 else if i.kind==2||i.kind==8 then (if !dP i.home 0 slot||(!dP i.max_ 1 6||(i.kind==2&& !dP i.bB 0 1000)) then 1 else 0)
 else if i.kind==3||(i.kind==4||i.kind==5) then (if (i.tokens.length:Int)==0||decide (6<(i.tokens.length:Int)) then 2 else if i.kind==5&& !dP i.bB 0 1000 then 1 else 0)
 else if i.kind==9||(i.kind==10||i.kind==11) then (if !dP i.bq 0 slot||(!dP i.to 0 slot||i.bq==i.to) then 1 else 0)
 else if i.kind==12||i.kind==14 then (if !dP i.bq 0 slot then 1 else 0)
 else if i.kind==13 then (if decide (i.bq<0)||decide (s.slots<i.bq) then 1 else 0)
 else if i.kind==6||i.kind==7 then 0 else 9
def bM.entries (i:bM):Int:=if i.kind==1 then i.bodies.length else if i.kind==3||(i.kind==4||i.kind==5) then i.tokens.length else 1
def Task.start (number:Int) (i:bM) (s:Setup) (n:Int):Task×Int:=
 if decide (number<1)||(decide (200<number)||decide (n<0)) then (Task.z,1) else if (aj.new s).2≠0 then (Task.z,(aj.new s).2)
 else if i.val s≠0 then (Task.z,i.val s) else ({Task.z with number:=number,inv:=i,setup:=s,invoked:=n},0)
def Task.next (t:Task) (r:aV) (n:Int):Task:=
 {Task.z with number:=t.number,inv:=t.inv,setup:=t.setup,invoked:=t.invoked,entry:=t.entry+1,results:=t.results++[r],dn:=if t.entry+1==t.inv.entries then true else t.dn,ended:=if t.entry+1==t.inv.entries then n else t.ended}
abbrev gF:=aj×Task×List Ev×Int
def Task.guard (t:Task) (low high:Int):Int:=if t.dn then 7 else if decide (t.inv.kind<low)||decide (high<t.inv.kind) then 9 else 0
def dN (e:Int):gF:=(aj.z,Task.z,[],e)
def Task.eU (t:Task) (cells:List Int) (pc:Int):Task:={t with sec:=(av.new cells t.setup.limit).1,pc:=pc}
def jc (a b:Int):List Int:=[min a b,max a b]
def Task.go (a:aj) (t:Task) (n:Int):aj×Task×Bool×Bool×Int:=
 let x:=t.sec.step a t.number n
 if x.2.2≠0 then (aj.z,Task.z,false,false,x.2.2) else (x.1,{t with sec:=x.2.1},x.2.1.phase==4,x.2.1.phase==9,0)
def Task.dec (t:Task) (o:bD):Task:={t with sec:=(t.sec.tu o).1}
def Task.ev (t:Task) (kind n:Int):Ev:={Ev.z with stamp:=n,task:=t.number,entry:=t.entry,kind:=kind}
def Task.jS (t:Task) (kind:Int):Ev:={Ev.z with stamp:=t.sec.aI.stamp,task:=t.number,entry:=t.entry,kind:=kind,now:=t.sec.aI.clock,epoch:=t.sec.aI.epoch}
def Task.look (a:aj) (t:Task) (route pc:Int):Task:=Task.eU {t with dir:=a.dir,slot:=a.dir.owner route} [a.dir.owner route] pc
def gB (l:List ByteArray) (i:Nat):ByteArray:=l[i]?.getD ⟨#[]⟩
def l8 (t:Task):Task×List Ev:=
 let s:=dW t.sec.aN 0
 let t1:Task:={t with loaded:=0}
 let o:=t.sec.bg
 if !s.owns t.walk.next then (t1.dec o,[])
 else
  let v:=t1.jS 2
  if s.stored==s.ready.cells.length then
   (let w:=(t.walk.ng s.low s.high).1
    let t2:Task:={t1 with walk:=w}
    if !w.over then (t2.dec o,[]) else (Task.dec {t2 with loaded:=2} o,[{v with err:=3,l:=[⟨t.id,0,0,0⟩]}]))
  else
   let m:=(ai.new t.id (Df (yF t.id) s.low s.high) t.sec.aI.epoch t.sec.aI.clock (gB t.inv.bodies t.entry.toNat)).1
   let x:=(s.put m).1
   (Task.dec {t1 with loaded:=1} {o with aN:=[x],order:=[0]},[{v with l:=[⟨t.id,0,m.route,0⟩]}])
def oK (a:aj) (t:Task) (n:Int):gF:=
 if t.guard 1 1≠0 then dN (t.guard 1 1)
 else if t.pc==0 then
  (let t1:Task:={t with loaded:=a.fB}
   if a.fB==1073741824 then (a,t1.next {aV.z with err:=6} n,[{t1.ev 2 n with err:=6}],0) else (a,{t1 with pc:=1},[],0))
 else if t.pc==1 then
  (let x:=a.lY 3 t.loaded (IntKind.i64.wrap (t.loaded+1))
   if x.2.2≠0 then dN x.2.2
   else if x.2.1 then (x.1,{t with id:=t.loaded,pc:=2,walk:=(Walk.begin (yF t.loaded)).1},[],0) else (x.1,{t with pc:=0},[],0))
 else if t.pc==2 then (a,t.look a t.walk.next 3,[],0)
 else
  let x:=t.go a n
  if x.2.2.2.2≠0 then dN x.2.2.2.2
  else if x.2.2.1 then (x.1,(l8 x.2.1).1,(l8 x.2.1).2,0)
  else if !x.2.2.2.1 then (x.1,x.2.1,[],0)
  else if x.2.1.loaded==1 then (x.1,x.2.1.next {aV.z with id:=x.2.1.id} n,[],0)
  else if x.2.1.loaded==2 then (x.1,x.2.1.next {aV.z with err:=3} n,[],0)
  else (x.1,{x.2.1 with pc:=2},[],0)
def qm (d:Dir) (home:Int):Int:=if 0<=d.home home then d.home home else d.owner 0
def kF (t:Task):ak×List Int×List Lease:=
 let s:=dW t.sec.aN 0
 let x:=s.expire t.sec.aI.clock t.sec.aI.epoch t.setup.limit
 let y:=x.1.take t.inv.max_ t.sec.aI.clock t.inv.bB t.sec.aI.epoch t.setup.limit
 (y.1,x.2.1,y.2.1)
def Dw (h:Hd):List UInt8:=if h.ok then wM h else []
def yZ (t:Task):aV:=
 {aV.z with tokens:=(kF t).2.2.map fun x=>Dw ⟨x.msg.id,x.msg.gen,x.msg.route,t.slot⟩,bodies:=(kF t).2.2.map fun x=>x.msg.body}
def fH (l:List Int):List cK:=l.map fun id=>⟨id,0,0,0⟩
def jV (t:Task):Task×List Ev:=
 let s:=dW t.sec.aN 0
 let t1:Task:={t with loaded:=0}
 let o:=t.sec.bg
 if !s.owns t.walk.next then (t1.dec o,[])
 else
  let v:=t1.jS 3
  if 1073741824<IntKind.i64.wrap (t.sec.aI.clock+t.inv.bB) then (Task.dec {t1 with loaded:=3} o,[{v with err:=6}])
  else
   let x:=kF t1
   let e1:List Ev:=if 0<x.2.1.length then [{t1.jS 10 with l:=fH x.2.1}] else []
   let o':bD:=if 0<x.2.1.length\/0<x.2.2.length then {o with aN:=[x.1],order:=[0]} else o
   let w:=(t1.walk.ng s.low s.high).1
   if 0<x.2.2.length then (Task.dec {t1 with walk:=w,loaded:=1} o',e1++[{v with l:=x.2.2.map fun y=>⟨y.msg.id,y.msg.gen,y.msg.route,y.dl⟩}])
   else if w.over then (Task.dec {t1 with walk:=w,loaded:=2} o',e1++[v])
   else (Task.dec {t1 with walk:=w} o',e1)
def oL (a:aj) (t:Task) (n:Int):gF:=
 if t.guard 2 2≠0 then dN (t.guard 2 2)
 else if t.pc==0 then
  (let k:=qm a.dir t.inv.home
   (a,Task.eU {t with dir:=a.dir,slot:=k,walk:=(Walk.begin (a.dir.span k).1.low).1} [k] 1,[],0))
 else if t.pc==2 then (a,t.look a t.walk.next 1,[],0)
 else
  let x:=t.go a n
  if x.2.2.2.2≠0 then dN x.2.2.2.2
  else if x.2.2.1 then (x.1,(jV x.2.1).1,(jV x.2.1).2,0)
  else if !x.2.2.2.1 then (x.1,x.2.1,[],0)
  else if x.2.1.loaded==3 then (x.1,x.2.1.next {aV.z with err:=6} n,[],0)
  else if x.2.1.loaded==2 then (x.1,x.2.1.next aV.z n,[],0)
  else if x.2.1.loaded==1 then (x.1,x.2.1.next (yZ x.2.1) n,[],0)
  else (x.1,{x.2.1 with pc:=2},[],0)
def setKind (op:Int):Int:=if op==3 then 4 else if op==4 then 5 else 6
def Nj (l:List (List UInt8)) (i:Nat):List UInt8:=l[i]?.getD []
def tC (b:List UInt8):Hd×Int:=match parse b with
 |some h=>(h,0)
 |none=>(Hd.z,8)
def settle (t:Task):ak×Int:=
 let s:=dW t.sec.aN 0
 if t.inv.kind==3 then s.yS t.hnd t.sec.aI.clock t.sec.aI.epoch
 else if t.inv.kind==4 then s.yT t.hnd t.sec.aI.clock t.sec.aI.epoch t.setup.limit
 else s.change t.hnd t.sec.aI.clock t.sec.aI.epoch t.inv.bB
def l9 (t:Task):Task×List Ev:=
 let o:=t.sec.bg
 if !(dW t.sec.aN 0).owns t.hnd.route then (t.dec o,[])
 else
  let v:=t.jS (setKind t.inv.kind)
  let x:=settle t
  let g:cK:=⟨t.hnd.id,t.hnd.gen,t.hnd.route,if x.2==0&&t.inv.kind==5 then IntKind.i64.wrap (t.sec.aI.clock+t.inv.bB) else 0⟩
  (t.dec (if x.2==0 then {o with aN:=[x.1],order:=[0]} else o),[{v with err:=x.2,l:=[g]}])
def mg (a:aj) (t:Task) (n:Int):gF:=
 if t.guard 3 5≠0 then dN (t.guard 3 5)
 else if t.pc==0 then
  (let x:=tC (Nj t.inv.tokens t.entry.toNat)
   if x.2≠0 then (a,t.next {aV.z with err:=5} n,[{t.ev (setKind t.inv.kind) n with err:=5}],0)
   else (a,if x.1.hint<t.setup.slots then Task.eU {t with hnd:=x.1,pc:=1} [x.1.hint] 2 else {t with hnd:=x.1,pc:=1},[],0))
 else if t.pc==1 then (a,t.look a t.hnd.route 2,[],0)
 else
  let x:=t.go a n
  if x.2.2.2.2≠0 then dN x.2.2.2.2
  else if x.2.2.1 then (x.1,(l9 x.2.1).1,(l9 x.2.1).2,0)
  else if !x.2.2.2.1 then (x.1,x.2.1,[],0)
  else if !(dW x.2.1.sec.aN 0).owns x.2.1.hnd.route then (x.1,{x.2.1 with pc:=1},[],0)
  else (x.1,x.2.1.next {aV.z with err:=(settle x.2.1).2,id:=if (settle x.2.1).2==0 then x.2.1.hnd.id else 0} n,[],0)
def oM (a:aj) (t:Task) (n:Int):gF:=
 if t.guard 6 6≠0 then dN (t.guard 6 6)
 else if t.pc==0 then
  (let t1:Task:={t with loaded:=a.epoch}
   if a.epoch==65536 then (a,t1.next {aV.z with err:=6} n,[{t.ev 7 n with err:=6}],0) else (a,{t1 with pc:=1},[],0))
 else
  let x:=a.lY 1 t.loaded (IntKind.i64.wrap (t.loaded+1))
  if x.2.2≠0 then dN x.2.2 else if !x.2.1 then (x.1,{t with pc:=0},[],0)
  else (x.1,t.next aV.z n,[{t.ev 7 n with epoch:=IntKind.i64.wrap (t.loaded+1)}],0)
def oN (a:aj) (t:Task) (n:Int):gF:=
 if t.guard 7 7≠0 then dN (t.guard 7 7)
 else if t.pc==0 then (a,{t with loaded:=a.epoch,first:=[],second:=[],pc:=1},[],0)
 else if t.pc==1 then
  (let x:=a.ql t.first.length
   if x.2≠0 then dN x.2 else
    let t1:Task:={t with first:=t.first++[x.1]}
    (a,if (t1.first.length:Int)==t.setup.slots then {t1 with pc:=if Bd t1.first then 2 else 0} else t1,[],0))
 else if t.pc==2 then
  (let x:=a.ql t.second.length
   if x.2≠0 then dN x.2 else
    let t1:Task:={t with second:=t.second++[x.1],id:=if (t.second.length:Int)==0 then n else t.id}
    (a,if (t1.second.length:Int)==t.setup.slots then {t1 with pc:=if uX t1.first t1.second then 3 else 0} else t1,[],0))
 else if a.epoch !=t.loaded then (a,{t with pc:=0},[],0)
 else
  let x:=tq a.epoch t.first 0 0
  (a,t.next {aV.z with ready:=x.1,eF:=x.2} n,[{t.ev 8 t.id with epoch:=a.epoch,ready:=x.1,eF:=x.2}],0)
def Dead.take (d:Dead) (k epoch:Int):Dead×List ai×Int:=if d.val≠0 then (Dead.z,[],d.val) else if decide (k<0)||(decide (epoch<0)||decide (65536<epoch)) then (Dead.z,[],1)
 else (⟨d.cap,(tk k epoch d.l).2⟩,(tk k epoch d.l).1,0)
def uY (t:Task):Int:=let s:=dW t.sec.aN 0;min t.inv.max_ (IntKind.i64.wrap (s.ready.cells.length - s.stored))
def mh (t:Task):Task×List Ev:=
 let s:=dW t.sec.aN 0
 let o:=t.sec.bg
 if !s.live then (t.dec o,[])
 else
  let v:=t.jS 9
  if uY t==0 then (t.dec o,[{v with err:=3}])
  else
   let x:=t.sec.dead.take (uY t) t.sec.aI.epoch
   if x.2.1.length=0 then (t.dec o,[v])
   else
    let c:=x.2.1.map ai.gU
    (t.dec ⟨[(s.sU c).1],x.1,[1,0],c,[]⟩,[{v with l:=c.map fun m=>⟨m.id,m.gen,(m.qi s.low s.high).route,0⟩}])
def oO (a:aj) (t:Task) (n:Int):gF:=
 if t.guard 8 8≠0 then dN (t.guard 8 8)
 else if t.pc==0 then (a,Task.eU {t with dir:=a.dir,slot:=qm a.dir t.inv.home} [qm a.dir t.inv.home,t.setup.slots] 1,[],0)
 else
  let x:=t.go a n
  if x.2.2.2.2≠0 then dN x.2.2.2.2
  else if x.2.2.1 then (x.1,(mh x.2.1).1,(mh x.2.1).2,0)
  else if !x.2.2.2.1 then (x.1,x.2.1,[],0)
  else if !(dW x.2.1.sec.aN 0).live then (x.1,{x.2.1 with pc:=0},[],0)
  else (x.1,x.2.1.next {aV.z with moved:=x.2.1.sec.out.carry.length,err:=if uY x.2.1==0 then 3 else 0} n,[],0)
abbrev qY:=bD×aV×List Ev
def iL (t:Task):List Int:=if t.inv.bq<t.inv.to then [0,1] else [1,0]
def jW (t:Task):ak:=dW t.sec.aN (if t.inv.bq<t.inv.to then 0 else 1)
def lI (t:Task):ak:=dW t.sec.aN (if t.inv.bq<t.inv.to then 1 else 0)
def placed (t:Task) (x y:ak):List ak:=if t.inv.bq<t.inv.to then [x,y] else [y,x]
def qZ (t:Task):qY:=
 let o:=t.sec.bg
 let v:=jW t
 let w:=lI t
 if !v.live|| !w.live then (o,{aV.z with err:=7},[])
 else
  let k:=min ((IntKind.i64.wrap (v.ready.size+1)).tdiv 2) (IntKind.i64.wrap (w.ready.cells.length - w.stored))
  if k==0 then (o,aV.z,[])
  else
   let x:=v.iF k
   (⟨placed t x.1 (w.sU x.2.1).1,o.dead,iL t,x.2.1,[]⟩,{aV.z with moved:=k},[])
def rf (t:Task):qY:=
 let o:=t.sec.bg
 let s:=jW t
 if !s.live||((lI t).live||decide (s.high<=s.low)) then (o,{aV.z with err:=7},[])
 else
  let mid:=(IntKind.i64.wrap (s.low+s.high)).tdiv 2
  let x:=s.divide mid
  (⟨placed t x.1 x.2.1,o.dead,iL t,x.2.1.all,[⟨1,t.inv.bq,t.inv.to,mid⟩]⟩,{aV.z with moved:=x.2.1.stored},[])
def rq (t:Task):qY:=
 let o:=t.sec.bg
 let s:=jW t
 let y:=(lI t).wT s
 if y.2≠0 then (o,{aV.z with err:=y.2},[])
 else (⟨placed t (ak.free s.ready.cells.length).1 y.1,o.dead,iL t,s.all,[⟨2,t.inv.bq,t.inv.to,0⟩]⟩,{aV.z with moved:=s.stored},[])
def Dead.clean (d:Dead) (epoch:Int):Dead×Int×Int:=if d.val≠0 then (Dead.z,0,d.val) else if decide (epoch<0)||decide (65536<epoch) then (Dead.z,0,1)
 else (⟨d.cap,d.l.filter fun m=> !m.gZ epoch⟩,(d.l.length:Int) - (d.l.filter fun m=> !m.gZ epoch).length,0)
def oP (t:Task):qY:=
 let o:=t.sec.bg
 if t.sec.aN.length=0 then
  (let x:=t.sec.dead.clean t.sec.aI.epoch
   (if 0<x.2.1 then {o with dead:=x.1,order:=[0]} else o,{aV.z with moved:=x.2.1},[]))
 else
  let s:=dW t.sec.aN 0
  if !s.live then (o,{aV.z with err:=7},[])
  else if t.inv.kind==13 then
   (let x:=s.clean t.sec.aI.epoch
    (if 0<x.2.1 then {o with aN:=[x.1],order:=[0]} else o,{aV.z with moved:=x.2.1},[]))
  else
   let x:=s.expire t.sec.aI.clock t.sec.aI.epoch t.setup.limit
   if x.2.1.length=0 then (o,aV.z,[])
   else ({o with aN:=[x.1],order:=[0]},{aV.z with moved:=x.2.1.length},[{t.jS 10 with l:=fH x.2.1}])
def Dead.room (d:Dead):Int:=yH d.cap d.l
def Dead.put (d:Dead) (l:List ai):Dead×Int:=if d.val≠0 then (Dead.z,d.val) else if d.room<l.length then (Dead.z,3) else if iE (d.l++l)≠0 then (Dead.z,iE (d.l++l)) else (⟨d.cap,d.l++l⟩,0)
def oQ (t:Task):qY:=
 let o:=t.sec.bg
 let s:=dW t.sec.aN 0
 if !s.live then (o,{aV.z with err:=7},[])
 else
  let x:=s.qW t.sec.dead.room t.sec.aI.epoch t.setup.limit
  if x.2.1.length=0 then (o,aV.z,[])
  else (⟨[x.1],(t.sec.dead.put x.2.1).1,[0,1],x.2.1,[]⟩,{aV.z with moved:=x.2.1.length},[])
def jB (plan:Task->qY) (lo hi:Int) (cells:Task->List Int) (a:aj) (t:Task) (n:Int):gF:=
 if t.guard lo hi≠0 then dN (t.guard lo hi)
 else
  let t1:=if t.pc==0 then t.eU (cells t) 1 else t
  let x:=t1.go a n
  if x.2.2.2.2≠0 then dN x.2.2.2.2
  else if x.2.2.1 then (x.1,x.2.1.dec (plan x.2.1).1,(plan x.2.1).2.2,0)
  else if !x.2.2.2.1 then (x.1,x.2.1,[],0)
  else (x.1,x.2.1.next (plan x.2.1).2.1 n,[],0)
def pairT (t:Task):List Int:=jc t.inv.bq t.inv.to
def y7:=jB qZ 9 9 pairT
def y8:=jB rf 10 10 pairT
def y9:=jB rq 11 11 pairT
def wY:=jB oP 12 13 fun t=>[t.inv.bq]
def za:=jB oQ 14 14 fun t=>[t.inv.bq,t.setup.slots]
def eX (a:aj) (t:Task) (n:Int):gF:=
 if t.dn then dN 7 else if t.inv.kind==1 then oK a t n else if t.inv.kind==2 then oL a t n
 else if t.inv.kind==3||(t.inv.kind==4||t.inv.kind==5) then mg a t n else if t.inv.kind==6 then oM a t n else if t.inv.kind==7 then oN a t n
 else if t.inv.kind==8 then oO a t n else if t.inv.kind==9 then y7 a t n else if t.inv.kind==10 then y8 a t n else if t.inv.kind==11 then y9 a t n
 else if t.inv.kind==12||t.inv.kind==13 then wY a t n else if t.inv.kind==14 then za a t n else dN 9
def aH.new (s:Setup):aH×Int:=if (aj.new s).2≠0 then (aH.z,(aj.new s).2) else ({aH.z with setup:=s,arena:=(aj.new s).1},0)
def opn:List Task->Nat->List Int
 |[],_=>[]
 |t::r,i=>if t.dn then opn r (i+1) else (i:Int)::opn r (i+1)
def aH.opn (w:aH):List Int:=Go.Eng.opn w.tasks 0
def aH.invoke (w:aH) (i:bM):aH×Int×Int:=
 if decide (200<=(w.tasks.length:Int))||decide (8<=(w.opn.length:Int)) then (aH.z,0,3)
 else
  let n:Int:=w.tasks.length+1
  let x:=Task.start n i w.setup w.steps
  if x.2≠0 then (aH.z,0,x.2) else ({w with tasks:=w.tasks++[x.1]},n,0)
def gT (l:List Task) (i:Nat):Task:=l[i]?.getD Task.z
def aH.step (w:aH) (i:Nat):aH×Int:=
 let t:=gT w.tasks i
 let x:=eX w.arena t (IntKind.i64.wrap (w.steps+1))
 if x.2.2.2≠0 then (aH.z,x.2.2.2)
 else ({w with steps:=IntKind.i64.wrap (w.steps+1),arena:=x.1,tasks:=w.tasks.set i x.2.1,log:=w.log++x.2.2.1,handles:=w.handles++((x.2.1.results.drop t.results.length).map aV.tokens).flatten},0)
def aH.pick (w:aH) (k:Int):aH×Int:=if decide (k<0)||decide ((w.opn.length:Int)<=k) then (aH.z,4) else w.step (gI w.opn k.toNat).toNat
def aH.tick (w:aH) (dM:Int):aH×Int:=if (w.arena.tick dM).2≠0 then (aH.z,(w.arena.tick dM).2)
 else ({w with steps:=IntKind.i64.wrap (w.steps+1),arena:=(w.arena.tick dM).1,log:=w.log++[{Ev.z with stamp:=IntKind.i64.wrap (w.steps+1),kind:=1,now:=(w.arena.tick dM).1.clock}]},0)
def qo (k:Int):Nat->aH->aH×Int
 |0,w=>(w,0)
 |f+1,w=>if w.opn.length=0 then (w,0) else if (w.pick ((max k 0).tmod w.opn.length)).2≠0 then (aH.z,(w.pick ((max k 0).tmod w.opn.length)).2) else qo k f (w.pick ((max k 0).tmod w.opn.length)).1
def aH.ni (w:aH) (c:bG):aH×Int:=
 let b:=max 0 (min c.dM 255)
 if c.kind==1 then qo c.pick b.toNat w
 else if c.kind==2 then (if (w.tick b).2==0 then ((w.tick b).1,0) else (w,0))
 else if c.kind==3 then
  (let v:bM:=if 0<c.refs.length then {c.inv with tokens:=c.refs.map fun r=>yQ r.index r.variant r.raw w.handles} else c.inv
   if (w.invoke v).2.2==0 then ((w.invoke v).1,0) else (w,0))
 else (w,0)
def Dx:List bG->aH->aH×Int
 |[],w=>(w,0)
 |c::r,w=>if (w.ni c).2≠0 then (aH.z,(w.ni c).2) else Dx r (w.ni c).1
def aH.run (s:Setup) (l:List bG):aH×Int:=if (aH.new s).2≠0 then (aH.z,(aH.new s).2) else if (400:Int)<l.length then (aH.z,2) else Dx l (aH.new s).1
structure aj.wf (n:Nat) (a:aj):Prop where
 n1:1<=n
 n6:n<=6
 sl:a.slots.length=n
 st:a.bU.length=n
 dv:a.dir.val=0
 df:a.dir.aM.length=n
section
variable {n:Nat} {a:aj}
theorem aj.wf.abO (h:a.wf n) (c w:Int):(a.own c w).wf n:=by
 unfold aj.own
 split
 ·exact ⟨h.n1,h.n6,h.sl,h.st,h.dv,h.df⟩
 ·exact ⟨h.n1,h.n6,by simp [h.sl],h.st,h.dv,h.df⟩
theorem aj.ak9 (h:a.wf n) {c w:Int} (e:(a.tryLock c w).2.2=0):(a.tryLock c w).1.wf n/\0<=c/\c<=n:=by
 unfold aj.tryLock at e ⊢
 split
 ·rename_i hc;rw [if_pos hc] at e;cases e
 ·rename_i hc
  have:0<=c/\c<=n:=by simp at hc;rw [<-h.sl];omega
  split
  ·exact ⟨h,this⟩
  ·exact ⟨h.abO _ _,this⟩
theorem aj.ala (h:a.wf n) {c w:Int} (e:(a.unlock c w).2=0):(a.unlock c w).1.wf n:=by
 unfold aj.unlock at e ⊢
 split
 ·rename_i hc;rw [if_pos hc] at e;cases e
 ·rename_i hc;rw [if_neg hc] at e
  split
  ·rename_i hd;rw [if_pos hd] at e;cases e
  ·exact h.abO _ _
theorem aj.alb (h:a.wf n) {i w:Int} {s:ak} (e:(a.lW i w s).2=0):(a.lW i w s).1.wf n:=by
 unfold aj.lW at e ⊢
 split
 ·rename_i hc;rw [if_pos hc] at e;exact absurd e hc
 ·rename_i hc;rw [if_neg hc] at e
  split
  ·rename_i hd;rw [if_pos hd] at e;exact absurd e hd
  ·rename_i hd;rw [if_neg hd] at e
   split
   ·rename_i hf;rw [if_pos hf] at e;cases e
   ·exact ⟨h.n1,h.n6,by simp [h.sl],h.st,h.dv,h.df⟩
theorem aj.abP (h:a.wf n) {i w:Int} {s:aJ} (e:(a.jA i w s).2=0):(a.jA i w s).1.wf n:=by
 unfold aj.jA at e ⊢
 split
 ·rename_i hc;rw [if_pos hc] at e;exact absurd e hc
 ·rename_i hc;rw [if_neg hc] at e
  split
  ·rename_i hd;rw [if_pos hd] at e;cases e
  ·exact ⟨h.n1,h.n6,h.sl,by simp [h.st],h.dv,h.df⟩
theorem aj.alc (h:a.wf n) {w:Int} {d:Dead} (e:(a.lX w d).2=0):(a.lX w d).1.wf n:=by
 unfold aj.lX at e ⊢
 split
 ·rename_i hc;rw [if_pos hc] at e;cases e
 ·rename_i hc;rw [if_neg hc] at e
  split
  ·rename_i hd;rw [if_pos hd] at e;cases e
  ·rename_i hd;rw [if_neg hd] at e
   split
   ·rename_i hf;rw [if_pos hf] at e;exact absurd e hf
   ·rename_i hf;rw [if_neg hf] at e
    split
    ·rename_i hg;rw [if_pos hg] at e;cases e
    ·exact ⟨h.n1,h.n6,h.sl,h.st,h.dv,h.df⟩
theorem aj.ald (h:a.wf n) {v:Int} {d:Dir} (e:(a.oJ v d).2.2=0):(a.oJ v d).1.wf n:=by
 unfold aj.oJ at e ⊢
 split
 ·rename_i hc;rw [if_pos hc] at e;exact absurd e hc
 ·rename_i hc;rw [if_neg hc] at e
  split
  ·rename_i hd;rw [if_pos hd] at e;cases e
  ·rename_i hd
   split
   ·exact h
   ·refine ⟨h.n1,h.n6,h.sl,h.st,?_,?_⟩
    ·exact Decidable.not_not.1 hc
    ·have:=h.sl;simp only;omega
theorem aj.abQ (h:a.wf n) {w o x:Int} (e:(a.lY w o x).2.2=0):(a.lY w o x).1.wf n:=by
 unfold aj.lY at e ⊢
 split
 ·rename_i hc;rw [if_pos hc] at e;cases e
 ·rename_i hc;rw [if_neg hc] at e
  split
  ·rename_i hd;rw [if_pos hd] at e;cases e
  ·split
   ·exact h
   ·split
    ·exact ⟨h.n1,h.n6,h.sl,h.st,h.dv,h.df⟩
    ·exact ⟨h.n1,h.n6,h.sl,h.st,h.dv,h.df⟩
theorem aj.VT (h:a.wf n) {b:Int} (e:(a.tick b).2=0):(a.tick b).1.wf n:=by
 unfold aj.tick at e ⊢
 split
 ·rename_i hc;rw [if_pos hc] at e;cases e
 ·rename_i hc;rw [if_neg hc] at e
  split
  ·rename_i hd;rw [if_pos hd] at e;cases e
  ·exact ⟨h.n1,h.n6,h.sl,h.st,h.dv,h.df⟩
end
theorem VU (d:Dir):∀ l:List Span,uW d l=0->(∀ x ∈ l,0<=x.eT/\x.eT<d.aM.length)/\wV d d.l 0=0
 |[],h=>⟨by simp,h⟩
 |x::r,h=>by
  simp only [uW] at h
  split at h
  ·cases h
  ·rename_i hc
   have ih:=VU d r h
   refine ⟨fun y hy=> ?_,ih.2⟩
   rcases List.mem_cons.1 hy with rfl|hy
   ·simp at hc;omega
   ·exact ih.1 y hy
theorem abR (d:Dir):∀ (l:List Span) (i:Nat),wV d l i=0->uV d d.aM 0=0
 |[],_,h=>h
 |x::r,i,h=>by
  simp only [wV] at h
  split at h
  ·cases h
  ·exact abR d r _ h
theorem Nk (d:Dir):∀ (l:List Int) (i:Nat),uV d l i=0->(∀ x ∈ l,-1<=x/\x<d.aM.length)/\sW d d.aM 0=0
 |[],_,h=>⟨by simp,h⟩
 |x::r,i,h=>by
  simp only [uV] at h
  split at h
  ·cases h
  ·rename_i hc
   have ih:=Nk d r _ h
   refine ⟨fun y hy=> ?_,ih.2⟩
   rcases List.mem_cons.1 hy with rfl|hy
   ·simp at hc;omega
   ·exact ih.1 y hy
theorem abS (d:Dir) (route:Int):∀ (l:List Span) (next:Int),lH d l next=0->next<=route->route<65536->∃ x ∈ l,yX route l=x.eT
 |[],next,h,h1,h2=>by
  simp only [lH] at h
  split at h
  ·cases h
  ·rename_i hc;simp at hc;omega
 |x::r,next,h,h1,h2=>by
  simp only [lH] at h
  split at h
  ·cases h
  ·rename_i hc
   simp at hc
   simp only [yX]
   split
   ·exact ⟨x,by simp,rfl⟩
   ·rename_i hn
    obtain ⟨y,hy,e⟩:=abS d route r _ h (by omega) h2
    exact ⟨y,by simp [hy],e⟩
theorem abT (d:Dir):∀ (l:List Span) (next:Int),lH d l next=0->uW d d.l=0
 |[],next,h=>by
  simp only [lH] at h
  split at h
  ·cases h
  ·exact h
 |x::r,next,h=>by
  simp only [lH] at h
  split at h
  ·cases h
  ·exact abT d r _ h
theorem Dir.oU {d:Dir} (h:d.val=0):lH d d.l 0=0/\uW d d.l=0/\uV d d.aM 0=0/\sW d d.aM 0=0:=by
 unfold Dir.val at h
 split at h
 ·cases h
 ·have h2:=abT d _ _ h
  have h4:=abR d _ _ (VU d _ h2).2
  exact ⟨h,h2,h4,(Nk d _ _ h4).2⟩
theorem Dir.abU {d:Dir} (h:d.val=0) {r:Int} (h0:0<=r) (h1:r<65536):0<=d.owner r/\d.owner r<d.aM.length:=by
 obtain ⟨p1,p2,_,_⟩:=d.oU h
 unfold Dir.owner
 rw [if_neg (by simp [h])]
 obtain ⟨x,hx,e⟩:=abS d r _ _ p1 h0 h1
 rw [e]
 exact (VU d _ p2).1 x hx
theorem Dy {l:List Int} {p:Int->Prop} (h:∀ x ∈ l,p x) {i:Nat} (hi:i<l.length):p (gI l i):=by
 unfold gI
 rw [List.getElem?_eq_getElem hi]
 exact h _ (List.getElem_mem hi)
theorem abV {d:Dir} (h:∀ x ∈ d.aM,-1<=x/\x<(d.aM.length:Int)):∀ (k:Nat) (s:Int),-1<=s->s<d.aM.length->wW d k s<d.aM.length
 |0,s,_,h2=>h2
 |k+1,s,h1,h2=>by
  simp only [wW]
  split
  ·rename_i hc
   have:=Dy h (i:=s.toNat) (by omega)
   exact abV h k _ this.1 this.2
  ·exact h2
theorem abW {d:Dir} (h:d.val=0) (s:Int):0<=qm d s/\qm d s<d.aM.length:=by
 unfold qm
 split
 ·rename_i hc
  refine ⟨hc,?_⟩
  obtain ⟨_,_,p4,_⟩:=d.oU h
  unfold Dir.home at hc ⊢
  split
  ·rename_i hd;rw [if_pos hd] at hc;omega
  ·rename_i hd
   exact abV (Nk d _ _ p4).1 7 s (by omega) (by omega)
 ·exact d.abU h (by omega) (by omega)
def Walk.ok (w:Walk):Prop:=0<=w.next/\w.next<65536
theorem Walk.abX (r:Int):(Walk.begin r).1.ok:=by
 unfold Walk.begin
 split
 ·exact ⟨by simp [Walk.z],by simp [Walk.z]⟩
 ·rename_i h;simp at h;exact ⟨by simp;omega,by simp;omega⟩
theorem Walk.Dz (w:Walk) (l h:Int):(w.ng l h).1.ok:=by
 unfold Walk.ng
 split
 ·exact ⟨by simp [Walk.z],by simp [Walk.z]⟩
 ·rename_i hc
  simp at hc
  have h1:=Int.tmod_nonneg 65536 (show 0<=h+1 by omega)
  have h2:=Int.tmod_lt_of_pos (h+1) (show (0:Int)<65536 by omega)
  exact ⟨h1,h2⟩
end Go.Eng
