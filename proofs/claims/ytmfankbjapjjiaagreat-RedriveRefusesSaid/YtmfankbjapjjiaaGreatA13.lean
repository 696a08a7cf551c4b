/-
  Part of a proof: lemmas and definitions of this work.
  No condition.
-/
import Derived.Test.YtmfankbjapjjiaaGreatA08
import Derived.Test.YtmfankbjapjjiaaGreatA12
set_option linter.all false
set_option maxRecDepth 100000
set_option maxHeartbeats 8000000
namespace Go.Eng
open Go
def av.new (cells:List Int) (limit:Int):av×Int:=if (aW.new cells).2≠0 then (av.z,(aW.new cells).2) else if decide (limit<1)||decide (8<limit) then (av.z,1)
 else ({av.z with lock:=(aW.new cells).1,limit:=limit},0)
def av.enter (s:av) (ph:Int):av:={s with phase:=ph,at_:=0}
def av.slots (a:aj) (s:av):Int:=ng (fun c:Int=>decide (c<(a.slots.length:Int))) s.lock.cells
def dZ (l:List ak) (i:Nat):ak:=l[i]?.getD ak.z
def av.mark (a:aj) (s:av) (task:Int):aj×av×Int:=
 let i:=(s.at_.tdiv 2).toNat
 let cell:=gI s.lock.cells i
 if s.at_.tmod 2==0 then (a,{s with bU:=s.bU++[(a.qj cell).1],at_:=s.at_+1},(a.qj cell).2)
 else
  let x:=(jd s.bU i).begin
  if x.2≠0 then (a,s,x.2) else
   let y:=a.jE cell task x.1
   let s':av:={s with bU:=s.bU.take i++[x.1],at_:=s.at_+1}
   (y.1,if y.2==0&&s'.at_==2*av.slots y.1 s' then s'.enter 2 else s',y.2)
def av.load (a:aj) (s:av):aj×av×Int:=
 let cell:=gI s.lock.cells s.at_.toNat
 let y:av×Int:=if cell==a.slots.length then ({s with dead:=a.dead.dead},0) else ({s with aN:=s.aN++[(a.kF cell).1]},(a.kF cell).2)
 let s':av:={y.1 with at_:=s.at_+1}
 (a,if s'.at_==s'.lock.cells.length then s'.enter 3 else s',y.2)
def av.jq (s:av):av×Int:=if s.lock.free.2≠0 then (s,s.lock.free.2) else (av.enter {s with lock:=s.lock.free.1} 8,0)
def av.je (s:av):av×Int:=if 0<s.bU.length then (s.enter 7,0) else s.jq
def av.store (a:aj) (s:av) (task:Int):aj×av×Int:=
 let k:=gI s.out.order s.at_.toNat
 let cell:=gI s.lock.cells k.toNat
 let y:=if cell==a.slots.length then a.l7 task s.out.dead else a.l6 cell task (dZ s.out.aN k.toNat)
 if y.2≠0 then (y.1,s,y.2)
 else if s.at_+1<s.out.order.length then (y.1,{s with at_:=s.at_+1,carry:=s.out.carry},0)
 else if 0<s.out.dP.length then (y.1,av.enter {s with carry:=[]} 6,0)
 else (y.1,(av.je {s with at_:=s.at_+1,carry:=[]}).1,(av.je {s with at_:=s.at_+1,carry:=[]}).2)
def gE (l:List bN) (i:Nat):bN:=l[i]?.getD bN.z
def av.mg (a:aj) (s:av):aj×av×Int:=
 if s.at_==0 then (a,{s with dir:=a.dir,at_:=1},0)
 else
  let d:=s.dir.apply (gE s.out.dP 0)
  if d.2≠0 then (a,s,d.2) else
   let x:=a.oG s.dir.version d.1
   if x.2.2≠0 then (a,s,x.2.2) else if !x.2.1 then (x.1,{s with at_:=0},0)
   else (x.1,(av.je {s with dir:=d.1}).1,(av.je {s with dir:=d.1}).2)
def av.yT (s:av) (k:Int):Bool:=s.out.order.any fun x=>x==k
def av.mh (a:aj) (s:av) (task:Int):aj×av×Int:=
 let i:=s.at_.toNat
 let now:=if s.yT s.at_ then dZ s.out.aN i else dZ s.aN i
 let x:=(jd s.bU i).done now s.aJ.epoch s.limit
 if x.2≠0 then (a,s,x.2) else
  let y:=a.jE (gI s.lock.cells i) task x.1
  if y.2≠0 then (y.1,s,y.2) else
   let s':av:={s with at_:=s.at_+1}
   if s'.at_==s'.bU.length then (y.1,s'.jq.1,s'.jq.2) else (y.1,s',0)
def av.step0 (a:aj) (s:av) (task n:Int):aj×av×Int:=
 if s.phase==0 then
  (let x:=s.lock.step a task
   let s':av:={s with lock:=x.2.1}
   if x.2.2==0&&x.2.1.phase==3 then
    (x.1,if av.slots a (s'.enter 1)==0 then (s'.enter 1).enter 2 else s'.enter 1,x.2.2)
   else (x.1,s',x.2.2))
 else if s.phase==1 then s.mark a task else if s.phase==2 then s.load a
 else if s.phase==3 then
  (let x:=s.aJ.step a n
   let s':av:={s with aJ:=x.1}
   (a,if x.2==0&&x.1.phase==3 then s'.enter 4 else s',x.2))
 else if s.phase==5 then s.store a task else if s.phase==6 then s.mg a else if s.phase==7 then s.mh a task
 else if s.phase==8 then
  (let x:=s.lock.step a task
   let s':av:={s with lock:=x.2.1}
   (x.1,if x.2.2==0&&x.2.1.phase==5 then s'.enter 9 else s',x.2.2))
 else (a,s,7)
def av.step (a:aj) (s:av) (task n:Int):aj×av×Int:=
 if (s.step0 a task n).2.2≠0 then (aj.z,av.z,(s.step0 a task n).2.2) else ((s.step0 a task n).1,(s.step0 a task n).2.1,0)
def av.bg (s:av):bE:=⟨s.aN,s.dead,[],[],[]⟩
def jf (cells:List Int):List Int->List Int->Bool
 |[],_=>true
 |k::r,old=>(decide (0<=k)&&decide (k<(cells.length:Int)))&&(!(old.any fun x=>x==k)&&jf cells r (old++[k]))
def av.sV (s:av) (o:bE):av×Int:=if s.phase !=4 then (av.z,7)
 else if o.aN.length≠s.aN.length\/1<o.dP.length then (av.z,1) else if jf s.lock.cells o.order []=false then (av.z,1)
 else if 0<o.order.length then (av.enter {s with out:=o} 5,0) else if 0<o.dP.length then (av.enter {s with out:=o} 6,0)
 else av.je {s with out:=o}
def Walk.begin (route:Int):Walk×Int:=if decide (route<0)||decide (65536<=route) then (Walk.z,1) else (⟨route,0⟩,0)
def Walk.nk (w:Walk) (low high:Int):Walk×Int:=if decide (low<0)||(decide (w.next<low)||(decide (high<w.next)||(decide (65536<=high)||(decide (w.covered<0)||decide (65536<=w.covered))))) then (Walk.z,1)
 else (⟨(high+1).tmod 65536,w.covered+high - w.next+1⟩,0)
def Walk.over (w:Walk):Bool:=decide (65536<=w.covered)
def VX (l:List ByteArray):Bool:=l.any fun b=>decide (16<b.size)
def bJ.val (i:bJ) (s:Setup):Int:=
 let slot:=IntKind.i64.wrap (s.slots - 1)
 if i.kind==1 then (if (i.bodies.length:Int)==0||decide (6<(i.bodies.length:Int)) then 2 else if VX i.bodies then 2 else 0)
 else if i.kind==2||i.kind==8 then (if !dQ i.home 0 slot||(!dQ i.max_ 1 6||(i.kind==2&& !dQ i.bC 0 1000)) then 1 else 0)
 else if i.kind==3||(i.kind==4||i.kind==5) then (if (i.tokens.length:Int)==0||decide (6<(i.tokens.length:Int)) then 2 else if i.kind==5&& !dQ i.bC 0 1000 then 1 else 0)
 else if i.kind==9||(i.kind==10||i.kind==11) then (if !dQ i.bA 0 slot||(!dQ i.to 0 slot||i.bA==i.to) then 1 else 0)
 else if i.kind==12||i.kind==14 then (if !dQ i.bA 0 slot then 1 else 0)
 else if i.kind==13 then (if decide (i.bA<0)||decide (s.slots<i.bA) then 1 else 0)
 else if i.kind==6||i.kind==7 then 0 else 9
def bJ.entries (i:bJ):Int:=if i.kind==1 then i.bodies.length else if i.kind==3||(i.kind==4||i.kind==5) then i.tokens.length else 1
def Task.start (number:Int) (i:bJ) (s:Setup) (n:Int):Task×Int:=
 if decide (number<1)||(decide (200<number)||decide (n<0)) then (Task.z,1) else if (aj.new s).2≠0 then (Task.z,(aj.new s).2)
 else if i.val s≠0 then (Task.z,i.val s) else ({Task.z with number:=number,inv:=i,setup:=s,invoked:=n},0)
def Task.next (t:Task) (r:aU) (n:Int):Task:=
 {Task.z with number:=t.number,inv:=t.inv,setup:=t.setup,invoked:=t.invoked,entry:=t.entry+1,results:=t.results++[r],dn:=if t.entry+1==t.inv.entries then true else t.dn,ended:=if t.entry+1==t.inv.entries then n else t.ended}
abbrev gG:=aj×Task×List Ev×Int
def Task.guard (t:Task) (low high:Int):Int:=if t.dn then 7 else if decide (t.inv.kind<low)||decide (high<t.inv.kind) then 9 else 0
def dH (e:Int):gG:=(aj.z,Task.z,[],e)
def Task.eX (t:Task) (cells:List Int) (pc:Int):Task:={t with sec:=(av.new cells t.setup.limit).1,pc:=pc}
def jg (a b:Int):List Int:=[min a b,max a b]
def Task.go (a:aj) (t:Task) (n:Int):aj×Task×Bool×Bool×Int:=
 let x:=t.sec.step a t.number n
 if x.2.2≠0 then (aj.z,Task.z,false,false,x.2.2) else (x.1,{t with sec:=x.2.1},x.2.1.phase==4,x.2.1.phase==9,0)
def Task.dec (t:Task) (o:bE):Task:={t with sec:=(t.sec.sV o).1}
def Task.ev (t:Task) (kind n:Int):Ev:={Ev.z with stamp:=n,task:=t.number,entry:=t.entry,kind:=kind}
def Task.jS (t:Task) (kind:Int):Ev:={Ev.z with stamp:=t.sec.aJ.stamp,task:=t.number,entry:=t.entry,kind:=kind,now:=t.sec.aJ.clock,epoch:=t.sec.aJ.epoch}
def Task.look (a:aj) (t:Task) (route pc:Int):Task:=Task.eX {t with dir:=a.dir,slot:=a.dir.owner route} [a.dir.owner route] pc
def gB (l:List ByteArray) (i:Nat):ByteArray:=l[i]?.getD ⟨#[]⟩
def mo (t:Task):Task×List Ev:=
 let s:=dZ t.sec.aN 0
 let t1:Task:={t with loaded:=0}
 let o:=t.sec.bg
 if !s.owns t.walk.next then (t1.dec o,[])
 else
  let v:=t1.jS 2
  if s.stored==s.ready.cells.length then
   (let w:=(t.walk.nk s.low s.high).1
    let t2:Task:={t1 with walk:=w}
    if !w.over then (t2.dec o,[]) else (Task.dec {t2 with loaded:=2} o,[{v with err:=3,l:=[⟨t.id,0,0,0⟩]}]))
  else
   let m:=(ai.new t.id (JS (yB t.id) s.low s.high) t.sec.aJ.epoch t.sec.aJ.clock (gB t.inv.bodies t.entry.toNat)).1
   let x:=(s.put m).1
   (Task.dec {t1 with loaded:=1} {o with aN:=[x],order:=[0]},[{v with l:=[⟨t.id,0,m.route,0⟩]}])
def oH (a:aj) (t:Task) (n:Int):gG:=
 if t.guard 1 1≠0 then dH (t.guard 1 1)
 else if t.pc==0 then
  (let t1:Task:={t with loaded:=a.fA}
   if a.fA==1073741824 then (a,t1.next {aU.z with err:=6} n,[{t1.ev 2 n with err:=6}],0) else (a,{t1 with pc:=1},[],0))
 else if t.pc==1 then
  (let x:=a.l8 3 t.loaded (IntKind.i64.wrap (t.loaded+1))
   if x.2.2≠0 then dH x.2.2
   else if x.2.1 then (x.1,{t with id:=t.loaded,pc:=2,walk:=(Walk.begin (yB t.loaded)).1},[],0) else (x.1,{t with pc:=0},[],0))
 else if t.pc==2 then (a,t.look a t.walk.next 3,[],0)
 else
  let x:=t.go a n
  if x.2.2.2.2≠0 then dH x.2.2.2.2
  else if x.2.2.1 then (x.1,(mo x.2.1).1,(mo x.2.1).2,0)
  else if !x.2.2.2.1 then (x.1,x.2.1,[],0)
  else if x.2.1.loaded==1 then (x.1,x.2.1.next {aU.z with id:=x.2.1.id} n,[],0)
  else if x.2.1.loaded==2 then (x.1,x.2.1.next {aU.z with err:=3} n,[],0)
  else (x.1,{x.2.1 with pc:=2},[],0)
def ql (d:Dir) (home:Int):Int:=if 0<=d.home home then d.home home else d.owner 0
def kG (t:Task):ak×List Int×List Lease:=
 let s:=dZ t.sec.aN 0
 let x:=s.expire t.sec.aJ.clock t.sec.aJ.epoch t.setup.limit
 let y:=x.1.take t.inv.max_ t.sec.aJ.clock t.inv.bC t.sec.aJ.epoch t.setup.limit
 (y.1,x.2.1,y.2.1)
def J9 (h:Hd):List UInt8:=if h.ok then wO h else []
def yU (t:Task):aU:=
 {aU.z with tokens:=(kG t).2.2.map fun x=>J9 ⟨x.msg.id,x.msg.gen,x.msg.route,t.slot⟩,bodies:=(kG t).2.2.map fun x=>x.msg.body}
def fH (l:List Int):List cK:=l.map fun id=>⟨id,0,0,0⟩
def jV (t:Task):Task×List Ev:=
 let s:=dZ t.sec.aN 0
 let t1:Task:={t with loaded:=0}
 let o:=t.sec.bg
 if !s.owns t.walk.next then (t1.dec o,[])
 else
  let v:=t1.jS 3
  if 1073741824<IntKind.i64.wrap (t.sec.aJ.clock+t.inv.bC) then (Task.dec {t1 with loaded:=3} o,[{v with err:=6}])
  else
   let x:=kG t1
   let e1:List Ev:=if 0<x.2.1.length then [{t1.jS 10 with l:=fH x.2.1}] else []
   let o':bE:=if 0<x.2.1.length\/0<x.2.2.length then {o with aN:=[x.1],order:=[0]} else o
   let w:=(t1.walk.nk s.low s.high).1
   if 0<x.2.2.length then (Task.dec {t1 with walk:=w,loaded:=1} o',e1++[{v with l:=x.2.2.map fun y=>⟨y.msg.id,y.msg.gen,y.msg.route,y.dl⟩}])
   else if w.over then (Task.dec {t1 with walk:=w,loaded:=2} o',e1++[v])
   else (Task.dec {t1 with walk:=w} o',e1)
def oI (a:aj) (t:Task) (n:Int):gG:=
 if t.guard 2 2≠0 then dH (t.guard 2 2)
 else if t.pc==0 then
  (let k:=ql a.dir t.inv.home
   (a,Task.eX {t with dir:=a.dir,slot:=k,walk:=(Walk.begin (a.dir.span k).1.low).1} [k] 1,[],0))
 else if t.pc==2 then (a,t.look a t.walk.next 1,[],0)
 else
  let x:=t.go a n
  if x.2.2.2.2≠0 then dH x.2.2.2.2
  else if x.2.2.1 then (x.1,(jV x.2.1).1,(jV x.2.1).2,0)
  else if !x.2.2.2.1 then (x.1,x.2.1,[],0)
  else if x.2.1.loaded==3 then (x.1,x.2.1.next {aU.z with err:=6} n,[],0)
  else if x.2.1.loaded==2 then (x.1,x.2.1.next aU.z n,[],0)
  else if x.2.1.loaded==1 then (x.1,x.2.1.next (yU x.2.1) n,[],0)
  else (x.1,{x.2.1 with pc:=2},[],0)
def setKind (op:Int):Int:=if op==3 then 4 else if op==4 then 5 else 6
def Nk (l:List (List UInt8)) (i:Nat):List UInt8:=l[i]?.getD []
def sW (b:List UInt8):Hd×Int:=match parse b with
 |some h=>(h,0)
 |none=>(Hd.z,8)
def settle (t:Task):ak×Int:=
 let s:=dZ t.sec.aN 0
 if t.inv.kind==3 then s.yO t.hnd t.sec.aJ.clock t.sec.aJ.epoch
 else if t.inv.kind==4 then s.yP t.hnd t.sec.aJ.clock t.sec.aJ.epoch t.setup.limit
 else s.change t.hnd t.sec.aJ.clock t.sec.aJ.epoch t.inv.bC
def mq (t:Task):Task×List Ev:=
 let o:=t.sec.bg
 if !(dZ t.sec.aN 0).owns t.hnd.route then (t.dec o,[])
 else
  let v:=t.jS (setKind t.inv.kind)
  let x:=settle t
  let g:cK:=⟨t.hnd.id,t.hnd.gen,t.hnd.route,if x.2==0&&t.inv.kind==5 then IntKind.i64.wrap (t.sec.aJ.clock+t.inv.bC) else 0⟩
  (t.dec (if x.2==0 then {o with aN:=[x.1],order:=[0]} else o),[{v with err:=x.2,l:=[g]}])
def mr (a:aj) (t:Task) (n:Int):gG:=
 if t.guard 3 5≠0 then dH (t.guard 3 5)
 else if t.pc==0 then
  (let x:=sW (Nk t.inv.tokens t.entry.toNat)
   if x.2≠0 then (a,t.next {aU.z with err:=5} n,[{t.ev (setKind t.inv.kind) n with err:=5}],0)
   else (a,if x.1.hint<t.setup.slots then Task.eX {t with hnd:=x.1,pc:=1} [x.1.hint] 2 else {t with hnd:=x.1,pc:=1},[],0))
 else if t.pc==1 then (a,t.look a t.hnd.route 2,[],0)
 else
  let x:=t.go a n
  if x.2.2.2.2≠0 then dH x.2.2.2.2
  else if x.2.2.1 then (x.1,(mq x.2.1).1,(mq x.2.1).2,0)
  else if !x.2.2.2.1 then (x.1,x.2.1,[],0)
  else if !(dZ x.2.1.sec.aN 0).owns x.2.1.hnd.route then (x.1,{x.2.1 with pc:=1},[],0)
  else (x.1,x.2.1.next {aU.z with err:=(settle x.2.1).2,id:=if (settle x.2.1).2==0 then x.2.1.hnd.id else 0} n,[],0)
def oJ (a:aj) (t:Task) (n:Int):gG:=
 if t.guard 6 6≠0 then dH (t.guard 6 6)
 else if t.pc==0 then
  (let t1:Task:={t with loaded:=a.epoch}
   if a.epoch==65536 then (a,t1.next {aU.z with err:=6} n,[{t.ev 7 n with err:=6}],0) else (a,{t1 with pc:=1},[],0))
 else
  let x:=a.l8 1 t.loaded (IntKind.i64.wrap (t.loaded+1))
  if x.2.2≠0 then dH x.2.2 else if !x.2.1 then (x.1,{t with pc:=0},[],0)
  else (x.1,t.next aU.z n,[{t.ev 7 n with epoch:=IntKind.i64.wrap (t.loaded+1)}],0)
def oK (a:aj) (t:Task) (n:Int):gG:=
 if t.guard 7 7≠0 then dH (t.guard 7 7)
 else if t.pc==0 then (a,{t with loaded:=a.epoch,first:=[],second:=[],pc:=1},[],0)
 else if t.pc==1 then
  (let x:=a.qj t.first.length
   if x.2≠0 then dH x.2 else
    let t1:Task:={t with first:=t.first++[x.1]}
    (a,if (t1.first.length:Int)==t.setup.slots then {t1 with pc:=if DK t1.first then 2 else 0} else t1,[],0))
 else if t.pc==2 then
  (let x:=a.qj t.second.length
   if x.2≠0 then dH x.2 else
    let t1:Task:={t with second:=t.second++[x.1],id:=if (t.second.length:Int)==0 then n else t.id}
    (a,if (t1.second.length:Int)==t.setup.slots then {t1 with pc:=if uU t1.first t1.second then 3 else 0} else t1,[],0))
 else if a.epoch !=t.loaded then (a,{t with pc:=0},[],0)
 else
  let x:=sU a.epoch t.first 0 0
  (a,t.next {aU.z with ready:=x.1,eH:=x.2} n,[{t.ev 8 t.id with epoch:=a.epoch,ready:=x.1,eH:=x.2}],0)
def Dead.take (d:Dead) (k epoch:Int):Dead×List ai×Int:=if d.val≠0 then (Dead.z,[],d.val) else if decide (k<0)||(decide (epoch<0)||decide (65536<epoch)) then (Dead.z,[],1)
 else (⟨d.cap,(tk k epoch d.l).2⟩,(tk k epoch d.l).1,0)
def uV (t:Task):Int:=let s:=dZ t.sec.aN 0;min t.inv.max_ (IntKind.i64.wrap (s.ready.cells.length - s.stored))
def mD (t:Task):Task×List Ev:=
 let s:=dZ t.sec.aN 0
 let o:=t.sec.bg
 if !s.live then (t.dec o,[])
 else
  let v:=t.jS 9
  if uV t==0 then (t.dec o,[{v with err:=3}])
  else
   let x:=t.sec.dead.take (uV t) t.sec.aJ.epoch
   if x.2.1.length=0 then (t.dec o,[v])
   else
    let c:=x.2.1.map ai.gV
    (t.dec ⟨[(s.sP c).1],x.1,[1,0],c,[]⟩,[{v with l:=c.map fun m=>⟨m.id,m.gen,(m.qh s.low s.high).route,0⟩}])
def oL (a:aj) (t:Task) (n:Int):gG:=
 if t.guard 8 8≠0 then dH (t.guard 8 8)
 else if t.pc==0 then (a,Task.eX {t with dir:=a.dir,slot:=ql a.dir t.inv.home} [ql a.dir t.inv.home,t.setup.slots] 1,[],0)
 else
  let x:=t.go a n
  if x.2.2.2.2≠0 then dH x.2.2.2.2
  else if x.2.2.1 then (x.1,(mD x.2.1).1,(mD x.2.1).2,0)
  else if !x.2.2.2.1 then (x.1,x.2.1,[],0)
  else if !(dZ x.2.1.sec.aN 0).live then (x.1,{x.2.1 with pc:=0},[],0)
  else (x.1,x.2.1.next {aU.z with moved:=x.2.1.sec.out.carry.length,err:=if uV x.2.1==0 then 3 else 0} n,[],0)
abbrev qZ:=bE×aU×List Ev
def iM (t:Task):List Int:=if t.inv.bA<t.inv.to then [0,1] else [1,0]
def jW (t:Task):ak:=dZ t.sec.aN (if t.inv.bA<t.inv.to then 0 else 1)
def lK (t:Task):ak:=dZ t.sec.aN (if t.inv.bA<t.inv.to then 1 else 0)
def placed (t:Task) (x y:ak):List ak:=if t.inv.bA<t.inv.to then [x,y] else [y,x]
def rf (t:Task):qZ:=
 let o:=t.sec.bg
 let v:=jW t
 let w:=lK t
 if !v.live|| !w.live then (o,{aU.z with err:=7},[])
 else
  let k:=min ((IntKind.i64.wrap (v.ready.size+1)).tdiv 2) (IntKind.i64.wrap (w.ready.cells.length - w.stored))
  if k==0 then (o,aU.z,[])
  else
   let x:=v.iG k
   (⟨placed t x.1 (w.sP x.2.1).1,o.dead,iM t,x.2.1,[]⟩,{aU.z with moved:=k},[])
def rq (t:Task):qZ:=
 let o:=t.sec.bg
 let s:=jW t
 if !s.live||((lK t).live||decide (s.high<=s.low)) then (o,{aU.z with err:=7},[])
 else
  let mid:=(IntKind.i64.wrap (s.low+s.high)).tdiv 2
  let x:=s.divide mid
  (⟨placed t x.1 x.2.1,o.dead,iM t,x.2.1.all,[⟨1,t.inv.bA,t.inv.to,mid⟩]⟩,{aU.z with moved:=x.2.1.stored},[])
def ru (t:Task):qZ:=
 let o:=t.sec.bg
 let s:=jW t
 let y:=(lK t).wV s
 if y.2≠0 then (o,{aU.z with err:=y.2},[])
 else (⟨placed t (ak.free s.ready.cells.length).1 y.1,o.dead,iM t,s.all,[⟨2,t.inv.bA,t.inv.to,0⟩]⟩,{aU.z with moved:=s.stored},[])
def Dead.clean (d:Dead) (epoch:Int):Dead×Int×Int:=if d.val≠0 then (Dead.z,0,d.val) else if decide (epoch<0)||decide (65536<epoch) then (Dead.z,0,1)
 else (⟨d.cap,d.l.filter fun m=> !m.gZ epoch⟩,(d.l.length:Int) - (d.l.filter fun m=> !m.gZ epoch).length,0)
def oM (t:Task):qZ:=
 let o:=t.sec.bg
 if t.sec.aN.length=0 then
  (let x:=t.sec.dead.clean t.sec.aJ.epoch
   (if 0<x.2.1 then {o with dead:=x.1,order:=[0]} else o,{aU.z with moved:=x.2.1},[]))
 else
  let s:=dZ t.sec.aN 0
  if !s.live then (o,{aU.z with err:=7},[])
  else if t.inv.kind==13 then
   (let x:=s.clean t.sec.aJ.epoch
    (if 0<x.2.1 then {o with aN:=[x.1],order:=[0]} else o,{aU.z with moved:=x.2.1},[]))
  else
   let x:=s.expire t.sec.aJ.clock t.sec.aJ.epoch t.setup.limit
   if x.2.1.length=0 then (o,aU.z,[])
   else ({o with aN:=[x.1],order:=[0]},{aU.z with moved:=x.2.1.length},[{t.jS 10 with l:=fH x.2.1}])
def Dead.room (d:Dead):Int:=yD d.cap d.l
def Dead.put (d:Dead) (l:List ai):Dead×Int:=if d.val≠0 then (Dead.z,d.val) else if d.room<l.length then (Dead.z,3) else if iF (d.l++l)≠0 then (Dead.z,iF (d.l++l)) else (⟨d.cap,d.l++l⟩,0)
def oN (t:Task):qZ:=
 let o:=t.sec.bg
 let s:=dZ t.sec.aN 0
 if !s.live then (o,{aU.z with err:=7},[])
 else
  let x:=s.qX t.sec.dead.room t.sec.aJ.epoch t.setup.limit
  if x.2.1.length=0 then (o,aU.z,[])
  else (⟨[x.1],(t.sec.dead.put x.2.1).1,[0,1],x.2.1,[]⟩,{aU.z with moved:=x.2.1.length},[])
def jF (plan:Task->qZ) (lo hi:Int) (cells:Task->List Int) (a:aj) (t:Task) (n:Int):gG:=
 if t.guard lo hi≠0 then dH (t.guard lo hi)
 else
  let t1:=if t.pc==0 then t.eX (cells t) 1 else t
  let x:=t1.go a n
  if x.2.2.2.2≠0 then dH x.2.2.2.2
  else if x.2.2.1 then (x.1,x.2.1.dec (plan x.2.1).1,(plan x.2.1).2.2,0)
  else if !x.2.2.2.1 then (x.1,x.2.1,[],0)
  else (x.1,x.2.1.next (plan x.2.1).2.1 n,[],0)
def pairT (t:Task):List Int:=jg t.inv.bA t.inv.to
def yV:=jF rf 9 9 pairT
def yX:=jF rq 10 10 pairT
def yY:=jF ru 11 11 pairT
def w9:=jF oM 12 13 fun t=>[t.inv.bA]
def yZ:=jF oN 14 14 fun t=>[t.inv.bA,t.setup.slots]
def eY (a:aj) (t:Task) (n:Int):gG:=
 if t.dn then dH 7 else if t.inv.kind==1 then oH a t n else if t.inv.kind==2 then oI a t n
 else if t.inv.kind==3||(t.inv.kind==4||t.inv.kind==5) then mr a t n else if t.inv.kind==6 then oJ a t n else if t.inv.kind==7 then oK a t n
 else if t.inv.kind==8 then oL a t n else if t.inv.kind==9 then yV a t n else if t.inv.kind==10 then yX a t n else if t.inv.kind==11 then yY a t n
 else if t.inv.kind==12||t.inv.kind==13 then w9 a t n else if t.inv.kind==14 then yZ a t n else dH 9
def aF.new (s:Setup):aF×Int:=if (aj.new s).2≠0 then (aF.z,(aj.new s).2) else ({aF.z with setup:=s,arena:=(aj.new s).1},0)
def opn:List Task->Nat->List Int
 |[],_=>[]
 |t::r,i=>if t.dn then opn r (i+1) else (i:Int)::opn r (i+1)
def aF.opn (w:aF):List Int:=Go.Eng.opn w.tasks 0
def aF.invoke (w:aF) (i:bJ):aF×Int×Int:=
 if decide (200<=(w.tasks.length:Int))||decide (8<=(w.opn.length:Int)) then (aF.z,0,3)
 else
  let n:Int:=w.tasks.length+1
  let x:=Task.start n i w.setup w.steps
  if x.2≠0 then (aF.z,0,x.2) else ({w with tasks:=w.tasks++[x.1]},n,0)
def gT (l:List Task) (i:Nat):Task:=l[i]?.getD Task.z
def aF.step (w:aF) (i:Nat):aF×Int:=
 let t:=gT w.tasks i
 let x:=eY w.arena t (IntKind.i64.wrap (w.steps+1))
 if x.2.2.2≠0 then (aF.z,x.2.2.2)
 else ({w with steps:=IntKind.i64.wrap (w.steps+1),arena:=x.1,tasks:=w.tasks.set i x.2.1,log:=w.log++x.2.2.1,handles:=w.handles++((x.2.1.results.drop t.results.length).map aU.tokens).flatten},0)
def aF.pick (w:aF) (k:Int):aF×Int:=if decide (k<0)||decide ((w.opn.length:Int)<=k) then (aF.z,4) else w.step (gI w.opn k.toNat).toNat
def aF.tick (w:aF) (dN:Int):aF×Int:=if (w.arena.tick dN).2≠0 then (aF.z,(w.arena.tick dN).2)
 else ({w with steps:=IntKind.i64.wrap (w.steps+1),arena:=(w.arena.tick dN).1,log:=w.log++[{Ev.z with stamp:=IntKind.i64.wrap (w.steps+1),kind:=1,now:=(w.arena.tick dN).1.clock}]},0)
def qm (k:Int):Nat->aF->aF×Int
 |0,w=>(w,0)
 |f+1,w=>if w.opn.length=0 then (w,0) else if (w.pick ((max k 0).tmod w.opn.length)).2≠0 then (aF.z,(w.pick ((max k 0).tmod w.opn.length)).2) else qm k f (w.pick ((max k 0).tmod w.opn.length)).1
def aF.nu (w:aF) (c:bH):aF×Int:=
 let b:=max 0 (min c.dN 255)
 if c.kind==1 then qm c.pick b.toNat w
 else if c.kind==2 then (if (w.tick b).2==0 then ((w.tick b).1,0) else (w,0))
 else if c.kind==3 then
  (let v:bJ:=if 0<c.refs.length then {c.inv with tokens:=c.refs.map fun r=>yM r.index r.variant r.raw w.handles} else c.inv
   if (w.invoke v).2.2==0 then ((w.invoke v).1,0) else (w,0))
 else (w,0)
def Ka:List bH->aF->aF×Int
 |[],w=>(w,0)
 |c::r,w=>if (w.nu c).2≠0 then (aF.z,(w.nu c).2) else Ka r (w.nu c).1
def aF.run (s:Setup) (l:List bH):aF×Int:=if (aF.new s).2≠0 then (aF.z,(aF.new s).2) else if (400:Int)<l.length then (aF.z,2) else Ka l (aF.new s).1
structure aj.wf (n:Nat) (a:aj):Prop where
 n1:1<=n
 n6:n<=6
 sl:a.slots.length=n
 st:a.bU.length=n
 dv:a.dir.val=0
 df:a.dir.aL.length=n
section
variable {n:Nat} {a:aj}
theorem aj.wf.acu (h:a.wf n) (c w:Int):(a.own c w).wf n:=by
 unfold aj.own
 split
 ·exact ⟨h.n1,h.n6,h.sl,h.st,h.dv,h.df⟩
 ·exact ⟨h.n1,h.n6,by simp [h.sl],h.st,h.dv,h.df⟩
theorem aj.alz (h:a.wf n) {c w:Int} (e:(a.tryLock c w).2.2=0):(a.tryLock c w).1.wf n/\0<=c/\c<=n:=by
 unfold aj.tryLock at e ⊢
 split
 ·rename_i hc;rw [if_pos hc] at e;cases e
 ·rename_i hc
  have:0<=c/\c<=n:=by simp at hc;rw [<-h.sl];omega
  split
  ·exact ⟨h,this⟩
  ·exact ⟨h.acu _ _,this⟩
theorem aj.alA (h:a.wf n) {c w:Int} (e:(a.unlock c w).2=0):(a.unlock c w).1.wf n:=by
 unfold aj.unlock at e ⊢
 split
 ·rename_i hc;rw [if_pos hc] at e;cases e
 ·rename_i hc;rw [if_neg hc] at e
  split
  ·rename_i hd;rw [if_pos hd] at e;cases e
  ·exact h.acu _ _
theorem aj.alB (h:a.wf n) {i w:Int} {s:ak} (e:(a.l6 i w s).2=0):(a.l6 i w s).1.wf n:=by
 unfold aj.l6 at e ⊢
 split
 ·rename_i hc;rw [if_pos hc] at e;exact absurd e hc
 ·rename_i hc;rw [if_neg hc] at e
  split
  ·rename_i hd;rw [if_pos hd] at e;exact absurd e hd
  ·rename_i hd;rw [if_neg hd] at e
   split
   ·rename_i hf;rw [if_pos hf] at e;cases e
   ·exact ⟨h.n1,h.n6,by simp [h.sl],h.st,h.dv,h.df⟩
theorem aj.acv (h:a.wf n) {i w:Int} {s:aI} (e:(a.jE i w s).2=0):(a.jE i w s).1.wf n:=by
 unfold aj.jE at e ⊢
 split
 ·rename_i hc;rw [if_pos hc] at e;exact absurd e hc
 ·rename_i hc;rw [if_neg hc] at e
  split
  ·rename_i hd;rw [if_pos hd] at e;cases e
  ·exact ⟨h.n1,h.n6,h.sl,by simp [h.st],h.dv,h.df⟩
theorem aj.alC (h:a.wf n) {w:Int} {d:Dead} (e:(a.l7 w d).2=0):(a.l7 w d).1.wf n:=by
 unfold aj.l7 at e ⊢
 split
 ·rename_i hc;rw [if_pos hc] at e;cases e
 ·rename_i hc;rw [if_neg hc] at e
  split
  ·rename_i hd;rw [if_pos hd] at e;cases e
  ·rename_i hd;rw [if_neg hd] at e
   split
   ·rename_i hf;rw [if_pos hf] at e;exact absurd e hf
   ·rename_i hf;rw [if_neg hf] at e
    split
    ·rename_i hg;rw [if_pos hg] at e;cases e
    ·exact ⟨h.n1,h.n6,h.sl,h.st,h.dv,h.df⟩
theorem aj.alD (h:a.wf n) {v:Int} {d:Dir} (e:(a.oG v d).2.2=0):(a.oG v d).1.wf n:=by
 unfold aj.oG at e ⊢
 split
 ·rename_i hc;rw [if_pos hc] at e;exact absurd e hc
 ·rename_i hc;rw [if_neg hc] at e
  split
  ·rename_i hd;rw [if_pos hd] at e;cases e
  ·rename_i hd
   split
   ·exact h
   ·refine ⟨h.n1,h.n6,h.sl,h.st,?_,?_⟩
    ·exact Decidable.not_not.1 hc
    ·have:=h.sl;simp only;omega
theorem aj.acw (h:a.wf n) {w o x:Int} (e:(a.l8 w o x).2.2=0):(a.l8 w o x).1.wf n:=by
 unfold aj.l8 at e ⊢
 split
 ·rename_i hc;rw [if_pos hc] at e;cases e
 ·rename_i hc;rw [if_neg hc] at e
  split
  ·rename_i hd;rw [if_pos hd] at e;cases e
  ·split
   ·exact h
   ·split
    ·exact ⟨h.n1,h.n6,h.sl,h.st,h.dv,h.df⟩
    ·exact ⟨h.n1,h.n6,h.sl,h.st,h.dv,h.df⟩
theorem aj.VY (h:a.wf n) {b:Int} (e:(a.tick b).2=0):(a.tick b).1.wf n:=by
 unfold aj.tick at e ⊢
 split
 ·rename_i hc;rw [if_pos hc] at e;cases e
 ·rename_i hc;rw [if_neg hc] at e
  split
  ·rename_i hd;rw [if_pos hd] at e;cases e
  ·exact ⟨h.n1,h.n6,h.sl,h.st,h.dv,h.df⟩
end
theorem VZ (d:Dir):∀ l:List Span,uS d l=0->(∀ x ∈ l,0<=x.eU/\x.eU<d.aL.length)/\wX d d.l 0=0
 |[],h=>⟨by simp,h⟩
 |x::r,h=>by
  simp only [uS] at h
  split at h
  ·cases h
  ·rename_i hc
   have ih:=VZ d r h
   refine ⟨fun y hy=> ?_,ih.2⟩
   rcases List.mem_cons.1 hy with rfl|hy
   ·simp at hc;omega
   ·exact ih.1 y hy
theorem acy (d:Dir):∀ (l:List Span) (i:Nat),wX d l i=0->uR d d.aL 0=0
 |[],_,h=>h
 |x::r,i,h=>by
  simp only [wX] at h
  split at h
  ·cases h
  ·exact acy d r _ h
theorem Nn (d:Dir):∀ (l:List Int) (i:Nat),uR d l i=0->(∀ x ∈ l,-1<=x/\x<d.aL.length)/\sS d d.aL 0=0
 |[],_,h=>⟨by simp,h⟩
 |x::r,i,h=>by
  simp only [uR] at h
  split at h
  ·cases h
  ·rename_i hc
   have ih:=Nn d r _ h
   refine ⟨fun y hy=> ?_,ih.2⟩
   rcases List.mem_cons.1 hy with rfl|hy
   ·simp at hc;omega
   ·exact ih.1 y hy
theorem acz (d:Dir) (route:Int):∀ (l:List Span) (next:Int),lJ d l next=0->next<=route->route<65536->∃ x ∈ l,yS route l=x.eU
 |[],next,h,h1,h2=>by
  simp only [lJ] at h
  split at h
  ·cases h
  ·rename_i hc;simp at hc;omega
 |x::r,next,h,h1,h2=>by
  simp only [lJ] at h
  split at h
  ·cases h
  ·rename_i hc
   simp at hc
   simp only [yS]
   split
   ·exact ⟨x,by simp,rfl⟩
   ·rename_i hn
    obtain ⟨y,hy,e⟩:=acz d route r _ h (by omega) h2
    exact ⟨y,by simp [hy],e⟩
theorem acA (d:Dir):∀ (l:List Span) (next:Int),lJ d l next=0->uS d d.l=0
 |[],next,h=>by
  simp only [lJ] at h
  split at h
  ·cases h
  ·exact h
 |x::r,next,h=>by
  simp only [lJ] at h
  split at h
  ·cases h
  ·exact acA d r _ h
theorem Dir.oO {d:Dir} (h:d.val=0):lJ d d.l 0=0/\uS d d.l=0/\uR d d.aL 0=0/\sS d d.aL 0=0:=by
 unfold Dir.val at h
 split at h
 ·cases h
 ·have h2:=acA d _ _ h
  have h4:=acy d _ _ (VZ d _ h2).2
  exact ⟨h,h2,h4,(Nn d _ _ h4).2⟩
theorem Dir.acB {d:Dir} (h:d.val=0) {r:Int} (h0:0<=r) (h1:r<65536):0<=d.owner r/\d.owner r<d.aL.length:=by
 obtain ⟨p1,p2,_,_⟩:=d.oO h
 unfold Dir.owner
 rw [if_neg (by simp [h])]
 obtain ⟨x,hx,e⟩:=acz d r _ _ p1 h0 h1
 rw [e]
 exact (VZ d _ p2).1 x hx
theorem Kb {l:List Int} {p:Int->Prop} (h:∀ x ∈ l,p x) {i:Nat} (hi:i<l.length):p (gI l i):=by
 unfold gI
 rw [List.getElem?_eq_getElem hi]
 exact h _ (List.getElem_mem hi)
theorem acC {d:Dir} (h:∀ x ∈ d.aL,-1<=x/\x<(d.aL.length:Int)):∀ (k:Nat) (s:Int),-1<=s->s<d.aL.length->wY d k s<d.aL.length
 |0,s,_,h2=>h2
 |k+1,s,h1,h2=>by
  simp only [wY]
  split
  ·rename_i hc
   have:=Kb h (i:=s.toNat) (by omega)
   exact acC h k _ this.1 this.2
  ·exact h2
theorem acD {d:Dir} (h:d.val=0) (s:Int):0<=ql d s/\ql d s<d.aL.length:=by
 unfold ql
 split
 ·rename_i hc
  refine ⟨hc,?_⟩
  obtain ⟨_,_,p4,_⟩:=d.oO h
  unfold Dir.home at hc ⊢
  split
  ·rename_i hd;rw [if_pos hd] at hc;omega
  ·rename_i hd
   exact acC (Nn d _ _ p4).1 7 s (by omega) (by omega)
 ·exact d.acB h (by omega) (by omega)
def Walk.ok (w:Walk):Prop:=0<=w.next/\w.next<65536
theorem Walk.acE (r:Int):(Walk.begin r).1.ok:=by
 unfold Walk.begin
 split
 ·exact ⟨by simp [Walk.z],by simp [Walk.z]⟩
 ·rename_i h;simp at h;exact ⟨by simp;omega,by simp;omega⟩
theorem Walk.Kc (w:Walk) (l h:Int):(w.nk l h).1.ok:=by
 unfold Walk.nk
 split
 ·exact ⟨by simp [Walk.z],by simp [Walk.z]⟩
 ·rename_i hc
  simp at hc
  have h1:=Int.tmod_nonneg 65536 (show 0<=h+1 by omega)
  have h2:=Int.tmod_lt_of_pos (h+1) (show (0:Int)<65536 by omega)
  exact ⟨h1,h2⟩
end Go.Eng
