/-
  Part of a proof: lemmas and definitions of this work.
  No condition.
-/
import Derived.Test.YthhjbngoibmpgaaGreatH08
import Derived.Test.YthhjbngoibmpgaaGreatH10
set_option linter.all false
set_option maxRecDepth 100000
set_option maxHeartbeats 8000000
namespace Go.Eng
open Go
def tL (d:Dir) (home:Int):Int:=if 0<=d.home home then d.home home else d.owner 0
def vK (t:Task):aj×List Int×List Lease:=
 let s:=bV t.sec.aA 0
 let x:=s.expire t.sec.aO.clock t.sec.aO.epoch t.setup.limit
 let y:=x.1.take t.inv.max_ t.sec.aO.clock t.inv.eP t.sec.aO.epoch t.setup.limit
 (y.1,x.2.1,y.2.1)
def aaZ (h:Hd):List UInt8:=if h.ok then GR h else []
def G9 (t:Task):bI:=
 {bI.z with tokens:=(vK t).2.2.map fun x=>aaZ ⟨x.msg.id,x.msg.gen,x.msg.route,t.slot⟩,bodies:=(vK t).2.2.map fun x=>x.msg.body}
def OH (l:List Int):List jY:=l.map fun id=>⟨id,0,0,0⟩
def pz (t:Task):Task×List Ev:=
 let s:=bV t.sec.aA 0
 let t1:Task:={t with loaded:=0}
 let o:=t.sec.bg
 if !s.owns t.walk.next then (t1.dec o,[])
 else
  let v:=t1.qL 3
  if 1073741824<IntKind.i64.wrap (t.sec.aO.clock+t.inv.eP) then (Task.dec {t1 with loaded:=3} o,[{v with err:=6}])
  else
   let x:=vK t1
   let e1:List Ev:=if 0<x.2.1.length then [{t1.qL 10 with l:=OH x.2.1}] else []
   let o':bL:=if 0<x.2.1.length\/0<x.2.2.length then {o with aA:=[x.1],order:=[0]} else o
   let w:=(t1.walk.Bt s.low s.high).1
   if 0<x.2.2.length then (Task.dec {t1 with walk:=w,loaded:=1} o',e1++[{v with l:=x.2.2.map fun y=>⟨y.msg.id,y.msg.gen,y.msg.route,y.dl⟩}])
   else if w.over then (Task.dec {t1 with walk:=w,loaded:=2} o',e1++[v])
   else (Task.dec {t1 with walk:=w} o',e1)
def tN (a:ai) (t:Task) (n:Int):kV:=
 if t.guard 2 2≠0 then fV (t.guard 2 2)
 else if t.pc==0 then
  (let k:=tL a.dir t.inv.home
   (a,Task.kW {t with dir:=a.dir,slot:=k,walk:=(Walk.begin (a.dir.span k).1.low).1} [k] 1,[],0))
 else if t.pc==2 then (a,t.look a t.walk.next 1,[],0)
 else
  let x:=t.go a n
  if x.2.2.2.2≠0 then fV x.2.2.2.2
  else if x.2.2.1 then (x.1,(pz x.2.1).1,(pz x.2.1).2,0)
  else if !x.2.2.2.1 then (x.1,x.2.1,[],0)
  else if x.2.1.loaded==3 then (x.1,x.2.1.next {bI.z with err:=6} n,[],0)
  else if x.2.1.loaded==2 then (x.1,x.2.1.next bI.z n,[],0)
  else if x.2.1.loaded==1 then (x.1,x.2.1.next (G9 x.2.1) n,[],0)
  else (x.1,{x.2.1 with pc:=2},[],0)
def setKind (op:Int):Int:=if op==3 then 4 else if op==4 then 5 else 6
def aa0 (l:List (List UInt8)) (i:Nat):List UInt8:=l[i]?.getD []
def Bu (b:List UInt8):Hd×Int:=match parse b with
 |some h=>(h,0)
 |none=>(Hd.z,8)
def settle (t:Task):aj×Int:=
 let s:=bV t.sec.aA 0
 if t.inv.kind==3 then s.G5 t.hnd t.sec.aO.clock t.sec.aO.epoch
 else if t.inv.kind==4 then s.G6 t.hnd t.sec.aO.clock t.sec.aO.epoch t.setup.limit
 else s.change t.hnd t.sec.aO.clock t.sec.aO.epoch t.inv.eP
def pE (t:Task):Task×List Ev:=
 let o:=t.sec.bg
 if !(bV t.sec.aA 0).owns t.hnd.route then (t.dec o,[])
 else
  let v:=t.qL (setKind t.inv.kind)
  let x:=settle t
  let g:jY:=⟨t.hnd.id,t.hnd.gen,t.hnd.route,if x.2==0&&t.inv.kind==5 then IntKind.i64.wrap (t.sec.aO.clock+t.inv.eP) else 0⟩
  (t.dec (if x.2==0 then {o with aA:=[x.1],order:=[0]} else o),[{v with err:=x.2,l:=[g]}])
def tO (a:ai) (t:Task) (n:Int):kV:=
 if t.guard 3 5≠0 then fV (t.guard 3 5)
 else if t.pc==0 then
  (let x:=Bu (aa0 t.inv.tokens t.entry.toNat)
   if x.2≠0 then (a,t.next {bI.z with err:=5} n,[{t.ev (setKind t.inv.kind) n with err:=5}],0)
   else (a,if x.1.hint<t.setup.slots then Task.kW {t with hnd:=x.1,pc:=1} [x.1.hint] 2 else {t with hnd:=x.1,pc:=1},[],0))
 else if t.pc==1 then (a,t.look a t.hnd.route 2,[],0)
 else
  let x:=t.go a n
  if x.2.2.2.2≠0 then fV x.2.2.2.2
  else if x.2.2.1 then (x.1,(pE x.2.1).1,(pE x.2.1).2,0)
  else if !x.2.2.2.1 then (x.1,x.2.1,[],0)
  else if !(bV x.2.1.sec.aA 0).owns x.2.1.hnd.route then (x.1,{x.2.1 with pc:=1},[],0)
  else (x.1,x.2.1.next {bI.z with err:=(settle x.2.1).2,id:=if (settle x.2.1).2==0 then x.2.1.hnd.id else 0} n,[],0)
def tQ (a:ai) (t:Task) (n:Int):kV:=
 if t.guard 6 6≠0 then fV (t.guard 6 6)
 else if t.pc==0 then
  (let t1:Task:={t with loaded:=a.epoch}
   if a.epoch==65536 then (a,t1.next {bI.z with err:=6} n,[{t.ev 7 n with err:=6}],0) else (a,{t1 with pc:=1},[],0))
 else
  let x:=a.rf 1 t.loaded (IntKind.i64.wrap (t.loaded+1))
  if x.2.2≠0 then fV x.2.2 else if !x.2.1 then (x.1,{t with pc:=0},[],0)
  else (x.1,t.next bI.z n,[{t.ev 7 n with epoch:=IntKind.i64.wrap (t.loaded+1)}],0)
def tT (a:ai) (t:Task) (n:Int):kV:=
 if t.guard 7 7≠0 then fV (t.guard 7 7)
 else if t.pc==0 then (a,{t with loaded:=a.epoch,first:=[],second:=[],pc:=1},[],0)
 else if t.pc==1 then
  (let x:=a.jJ t.first.length
   if x.2≠0 then fV x.2 else
    let t1:Task:={t with first:=t.first++[x.1]}
    (a,if (t1.first.length:Int)==t.setup.slots then {t1 with pc:=if nX t1.first then 2 else 0} else t1,[],0))
 else if t.pc==2 then
  (let x:=a.jJ t.second.length
   if x.2≠0 then fV x.2 else
    let t1:Task:={t with second:=t.second++[x.1],id:=if (t.second.length:Int)==0 then n else t.id}
    (a,if (t1.second.length:Int)==t.setup.slots then {t1 with pc:=if OE t1.first t1.second then 3 else 0} else t1,[],0))
 else if a.epoch !=t.loaded then (a,{t with pc:=0},[],0)
 else
  let x:=G8 a.epoch t.first 0 0
  (a,t.next {bI.z with ready:=x.1,dH:=x.2} n,[{t.ev 8 t.id with epoch:=a.epoch,ready:=x.1,dH:=x.2}],0)
def Dead.take (d:Dead) (k epoch:Int):Dead×List ak×Int:=if d.val≠0 then (Dead.z,[],d.val) else if decide (k<0)||(decide (epoch<0)||decide (65536<epoch)) then (Dead.z,[],1)
 else (⟨d.cap,(tk k epoch d.l).2⟩,(tk k epoch d.l).1,0)
def Bv (t:Task):Int:=let s:=bV t.sec.aA 0;min t.inv.max_ (IntKind.i64.wrap (s.ready.cells.length - s.stored))
def pF (t:Task):Task×List Ev:=
 let s:=bV t.sec.aA 0
 let o:=t.sec.bg
 if !s.live then (t.dec o,[])
 else
  let v:=t.qL 9
  if Bv t==0 then (t.dec o,[{v with err:=3}])
  else
   let x:=t.sec.dead.take (Bv t) t.sec.aO.epoch
   if x.2.1.length=0 then (t.dec o,[v])
   else
    let c:=x.2.1.map ak.aaX
    (t.dec ⟨[(s.Bp c).1],x.1,[1,0],c,[]⟩,[{v with l:=c.map fun m=>⟨m.id,m.gen,(m.Bh s.low s.high).route,0⟩}])
def tV (a:ai) (t:Task) (n:Int):kV:=
 if t.guard 8 8≠0 then fV (t.guard 8 8)
 else if t.pc==0 then (a,Task.kW {t with dir:=a.dir,slot:=tL a.dir t.inv.home} [tL a.dir t.inv.home,t.setup.slots] 1,[],0)
 else
  let x:=t.go a n
  if x.2.2.2.2≠0 then fV x.2.2.2.2
  else if x.2.2.1 then (x.1,(pF x.2.1).1,(pF x.2.1).2,0)
  else if !x.2.2.2.1 then (x.1,x.2.1,[],0)
  else if !(bV x.2.1.sec.aA 0).live then (x.1,{x.2.1 with pc:=0},[],0)
  else (x.1,x.2.1.next {bI.z with moved:=x.2.1.sec.out.carry.length,err:=if Bv x.2.1==0 then 3 else 0} n,[],0)
abbrev pG:=bL×bI×List Ev
def rq (t:Task):List Int:=if t.inv.dR<t.inv.to then [0,1] else [1,0]
def yG (t:Task):aj:=bV t.sec.aA (if t.inv.dR<t.inv.to then 0 else 1)
def He (t:Task):aj:=bV t.sec.aA (if t.inv.dR<t.inv.to then 1 else 0)
def placed (t:Task) (x y:aj):List aj:=if t.inv.dR<t.inv.to then [x,y] else [y,x]
def Bw (t:Task):pG:=
 let o:=t.sec.bg
 let v:=yG t
 let w:=He t
 if !v.live|| !w.live then (o,{bI.z with err:=7},[])
 else
  let k:=min ((IntKind.i64.wrap (v.ready.size+1)).tdiv 2) (IntKind.i64.wrap (w.ready.cells.length - w.stored))
  if k==0 then (o,bI.z,[])
  else
   let x:=v.qV k
   (⟨placed t x.1 (w.Bp x.2.1).1,o.dead,rq t,x.2.1,[]⟩,{bI.z with moved:=k},[])
def Bz (t:Task):pG:=
 let o:=t.sec.bg
 let s:=yG t
 if !s.live||((He t).live||decide (s.high<=s.low)) then (o,{bI.z with err:=7},[])
 else
  let mid:=(IntKind.i64.wrap (s.low+s.high)).tdiv 2
  let x:=s.divide mid
  (⟨placed t x.1 x.2.1,o.dead,rq t,x.2.1.all,[⟨1,t.inv.dR,t.inv.to,mid⟩]⟩,{bI.z with moved:=x.2.1.stored},[])
def BA (t:Task):pG:=
 let o:=t.sec.bg
 let s:=yG t
 let y:=(He t).G7 s
 if y.2≠0 then (o,{bI.z with err:=y.2},[])
 else (⟨placed t (aj.free s.ready.cells.length).1 y.1,o.dead,rq t,s.all,[⟨2,t.inv.dR,t.inv.to,0⟩]⟩,{bI.z with moved:=s.stored},[])
def Dead.clean (d:Dead) (epoch:Int):Dead×Int×Int:=if d.val≠0 then (Dead.z,0,d.val) else if decide (epoch<0)||decide (65536<epoch) then (Dead.z,0,1)
 else (⟨d.cap,d.l.filter fun m=> !m.jr epoch⟩,(d.l.length:Int) - (d.l.filter fun m=> !m.jr epoch).length,0)
def vL (t:Task):pG:=
 let o:=t.sec.bg
 if t.sec.aA.length=0 then
  (let x:=t.sec.dead.clean t.sec.aO.epoch
   (if 0<x.2.1 then {o with dead:=x.1,order:=[0]} else o,{bI.z with moved:=x.2.1},[]))
 else
  let s:=bV t.sec.aA 0
  if !s.live then (o,{bI.z with err:=7},[])
  else if t.inv.kind==13 then
   (let x:=s.clean t.sec.aO.epoch
    (if 0<x.2.1 then {o with aA:=[x.1],order:=[0]} else o,{bI.z with moved:=x.2.1},[]))
  else
   let x:=s.expire t.sec.aO.clock t.sec.aO.epoch t.setup.limit
   if x.2.1.length=0 then (o,bI.z,[])
   else ({o with aA:=[x.1],order:=[0]},{bI.z with moved:=x.2.1.length},[{t.qL 10 with l:=OH x.2.1}])
def Dead.room (d:Dead):Int:=aad d.cap d.l
def Dead.put (d:Dead) (l:List ak):Dead×Int:=if d.val≠0 then (Dead.z,d.val) else if d.room<l.length then (Dead.z,3) else if iw (d.l++l)≠0 then (Dead.z,iw (d.l++l)) else (⟨d.cap,d.l++l⟩,0)
def vM (t:Task):pG:=
 let o:=t.sec.bg
 let s:=bV t.sec.aA 0
 if !s.live then (o,{bI.z with err:=7},[])
 else
  let x:=s.yD t.sec.dead.room t.sec.aO.epoch t.setup.limit
  if x.2.1.length=0 then (o,bI.z,[])
  else (⟨[x.1],(t.sec.dead.put x.2.1).1,[0,1],x.2.1,[]⟩,{bI.z with moved:=x.2.1.length},[])
def kX (plan:Task->pG) (lo hi:Int) (cells:Task->List Int) (a:ai) (t:Task) (n:Int):kV:=
 if t.guard lo hi≠0 then fV (t.guard lo hi)
 else
  let t1:=if t.pc==0 then t.kW (cells t) 1 else t
  let x:=t1.go a n
  if x.2.2.2.2≠0 then fV x.2.2.2.2
  else if x.2.2.1 then (x.1,x.2.1.dec (plan x.2.1).1,(plan x.2.1).2.2,0)
  else if !x.2.2.2.1 then (x.1,x.2.1,[],0)
  else (x.1,x.2.1.next (plan x.2.1).2.1 n,[],0)
def pairT (t:Task):List Int:=OG t.inv.dR t.inv.to
def Hf:=kX Bw 9 9 pairT
def Hg:=kX Bz 10 10 pairT
def Hl:=kX BA 11 11 pairT
def Ho:=kX vL 12 13 fun t=>[t.inv.dR]
def Hq:=kX vM 14 14 fun t=>[t.inv.dR,t.setup.slots]
def ru (a:ai) (t:Task) (n:Int):kV:=
 if t.dn then fV 7 else if t.inv.kind==1 then tK a t n else if t.inv.kind==2 then tN a t n
 else if t.inv.kind==3||(t.inv.kind==4||t.inv.kind==5) then tO a t n else if t.inv.kind==6 then tQ a t n else if t.inv.kind==7 then tT a t n
 else if t.inv.kind==8 then tV a t n else if t.inv.kind==9 then Hf a t n else if t.inv.kind==10 then Hg a t n else if t.inv.kind==11 then Hl a t n
 else if t.inv.kind==12||t.inv.kind==13 then Ho a t n else if t.inv.kind==14 then Hq a t n else fV 9
def bF.new (s:Setup):bF×Int:=if (ai.new s).2≠0 then (bF.z,(ai.new s).2) else ({bF.z with setup:=s,arena:=(ai.new s).1},0)
def opn:List Task->Nat->List Int
 |[],_=>[]
 |t::r,i=>if t.dn then opn r (i+1) else (i:Int)::opn r (i+1)
def bF.opn (w:bF):List Int:=Go.Eng.opn w.tasks 0
def bF.invoke (w:bF) (i:fM):bF×Int×Int:=
 if decide (200<=(w.tasks.length:Int))||decide (8<=(w.opn.length:Int)) then (bF.z,0,3)
 else
  let n:Int:=w.tasks.length+1
  let x:=Task.start n i w.setup w.steps
  if x.2≠0 then (bF.z,0,x.2) else ({w with tasks:=w.tasks++[x.1]},n,0)
def gT (l:List Task) (i:Nat):Task:=l[i]?.getD Task.z
def bF.step (w:bF) (i:Nat):bF×Int:=
 let t:=gT w.tasks i
 let x:=ru w.arena t (IntKind.i64.wrap (w.steps+1))
 if x.2.2.2≠0 then (bF.z,x.2.2.2)
 else ({w with steps:=IntKind.i64.wrap (w.steps+1),arena:=x.1,tasks:=w.tasks.set i x.2.1,log:=w.log++x.2.2.1,handles:=w.handles++((x.2.1.results.drop t.results.length).map bI.tokens).flatten},0)
def bF.pick (w:bF) (k:Int):bF×Int:=if decide (k<0)||decide ((w.opn.length:Int)<=k) then (bF.z,4) else w.step (gI w.opn k.toNat).toNat
def bF.tick (w:bF) (bW:Int):bF×Int:=if (w.arena.tick bW).2≠0 then (bF.z,(w.arena.tick bW).2)
 else ({w with steps:=IntKind.i64.wrap (w.steps+1),arena:=(w.arena.tick bW).1,log:=w.log++[{Ev.z with stamp:=IntKind.i64.wrap (w.steps+1),kind:=1,now:=(w.arena.tick bW).1.clock}]},0)
def OI (k:Int):Nat->bF->bF×Int
 |0,w=>(w,0)
 |f+1,w=>if w.opn.length=0 then (w,0) else if (w.pick ((max k 0).tmod w.opn.length)).2≠0 then (bF.z,(w.pick ((max k 0).tmod w.opn.length)).2) else OI k f (w.pick ((max k 0).tmod w.opn.length)).1
def bF.Hr (w:bF) (c:kT):bF×Int:=
 let b:=max 0 (min c.bW 255)
 if c.kind==1 then OI c.pick b.toNat w
 else if c.kind==2 then (if (w.tick b).2==0 then ((w.tick b).1,0) else (w,0))
 else if c.kind==3 then
  (let v:fM:=if 0<c.refs.length then {c.inv with tokens:=c.refs.map fun r=>aaU r.index r.variant r.raw w.handles} else c.inv
   if (w.invoke v).2.2==0 then ((w.invoke v).1,0) else (w,0))
 else (w,0)
def OJ:List kT->bF->bF×Int
 |[],w=>(w,0)
 |c::r,w=>if (w.Hr c).2≠0 then (bF.z,(w.Hr c).2) else OJ r (w.Hr c).1
def bF.run (s:Setup) (l:List kT):bF×Int:=if (bF.new s).2≠0 then (bF.z,(bF.new s).2) else if (400:Int)<l.length then (bF.z,2) else OJ l (bF.new s).1
structure ai.wf (n:Nat) (a:ai):Prop where
 n1:1<=n
 n6:n<=6
 sl:a.slots.length=n
 st:a.aH.length=n
 dv:a.dir.val=0
 df:a.dir.aM.length=n
section
variable {n:Nat} {a:ai}
theorem ai.wf.OL (h:a.wf n) (c w:Int):(a.own c w).wf n:=by
 unfold ai.own
 split
 ·exact ⟨h.n1,h.n6,h.sl,h.st,h.dv,h.df⟩
 ·exact ⟨h.n1,h.n6,by simp [h.sl],h.st,h.dv,h.df⟩
theorem ai.aa1 (h:a.wf n) {c w:Int} (e:(a.tryLock c w).2.2=0):(a.tryLock c w).1.wf n/\0<=c/\c<=n:=by
 unfold ai.tryLock at e ⊢
 split
 ·rename_i hc;rw [if_pos hc] at e;cases e
 ·rename_i hc
  have:0<=c/\c<=n:=by simp at hc;rw [<-h.sl];omega
  split
  ·exact ⟨h,this⟩
  ·exact ⟨h.OL _ _,this⟩
theorem ai.aa2 (h:a.wf n) {c w:Int} (e:(a.unlock c w).2=0):(a.unlock c w).1.wf n:=by
 unfold ai.unlock at e ⊢
 split
 ·rename_i hc;rw [if_pos hc] at e;cases e
 ·rename_i hc;rw [if_neg hc] at e
  split
  ·rename_i hd;rw [if_pos hd] at e;cases e
  ·exact h.OL _ _
theorem ai.aa3 (h:a.wf n) {i w:Int} {s:aj} (e:(a.iB i w s).2=0):(a.iB i w s).1.wf n:=by
 unfold ai.iB at e ⊢
 split
 ·rename_i hc;rw [if_pos hc] at e;exact absurd e hc
 ·rename_i hc;rw [if_neg hc] at e
  split
  ·rename_i hd;rw [if_pos hd] at e;exact absurd e hd
  ·rename_i hd;rw [if_neg hd] at e
   split
   ·rename_i hf;rw [if_pos hf] at e;cases e
   ·exact ⟨h.n1,h.n6,by simp [h.sl],h.st,h.dv,h.df⟩
theorem ai.OM (h:a.wf n) {i w:Int} {s:aG} (e:(a.gU i w s).2=0):(a.gU i w s).1.wf n:=by
 unfold ai.gU at e ⊢
 split
 ·rename_i hc;rw [if_pos hc] at e;exact absurd e hc
 ·rename_i hc;rw [if_neg hc] at e
  split
  ·rename_i hd;rw [if_pos hd] at e;cases e
  ·exact ⟨h.n1,h.n6,h.sl,by simp [h.st],h.dv,h.df⟩
theorem ai.aa4 (h:a.wf n) {w:Int} {d:Dead} (e:(a.iC w d).2=0):(a.iC w d).1.wf n:=by
 unfold ai.iC at e ⊢
 split
 ·rename_i hc;rw [if_pos hc] at e;cases e
 ·rename_i hc;rw [if_neg hc] at e
  split
  ·rename_i hd;rw [if_pos hd] at e;cases e
  ·rename_i hd;rw [if_neg hd] at e
   split
   ·rename_i hf;rw [if_pos hf] at e;exact absurd e hf
   ·rename_i hf;rw [if_neg hf] at e
    split
    ·rename_i hg;rw [if_pos hg] at e;cases e
    ·exact ⟨h.n1,h.n6,h.sl,h.st,h.dv,h.df⟩
theorem ai.aa5 (h:a.wf n) {v:Int} {d:Dir} (e:(a.qZ v d).2.2=0):(a.qZ v d).1.wf n:=by
 unfold ai.qZ at e ⊢
 split
 ·rename_i hc;rw [if_pos hc] at e;exact absurd e hc
 ·rename_i hc;rw [if_neg hc] at e
  split
  ·rename_i hd;rw [if_pos hd] at e;cases e
  ·rename_i hd
   split
   ·exact h
   ·refine ⟨h.n1,h.n6,h.sl,h.st,?_,?_⟩
    ·exact Decidable.not_not.1 hc
    ·have:=h.sl;simp only;omega
theorem ai.OO (h:a.wf n) {w o x:Int} (e:(a.rf w o x).2.2=0):(a.rf w o x).1.wf n:=by
 unfold ai.rf at e ⊢
 split
 ·rename_i hc;rw [if_pos hc] at e;cases e
 ·rename_i hc;rw [if_neg hc] at e
  split
  ·rename_i hd;rw [if_pos hd] at e;cases e
  ·split
   ·exact h
   ·split
    ·exact ⟨h.n1,h.n6,h.sl,h.st,h.dv,h.df⟩
    ·exact ⟨h.n1,h.n6,h.sl,h.st,h.dv,h.df⟩
end
theorem Ht (d:Dir):∀ l:List Span,pq d l=0->(∀ x ∈ l,0<=x.bM/\x.bM<d.aM.length)/\o9 d d.l 0=0
 |[],h=>⟨by simp,h⟩
 |x::r,h=>by
  simp only [pq] at h
  split at h
  ·cases h
  ·rename_i hc
   have ih:=Ht d r h
   refine ⟨fun y hy=> ?_,ih.2⟩
   rcases List.mem_cons.1 hy with rfl|hy
   ·simp at hc;omega
   ·exact ih.1 y hy
theorem OP (d:Dir):∀ (l:List Span) (i:Nat),o9 d l i=0->qY d d.aM 0=0
 |[],_,h=>h
 |x::r,i,h=>by
  simp only [o9] at h
  split at h
  ·cases h
  ·exact OP d r _ h
theorem Hu (d:Dir):∀ (l:List Int) (i:Nat),qY d l i=0->(∀ x ∈ l,-1<=x/\x<d.aM.length)/\tH d d.aM 0=0
 |[],_,h=>⟨by simp,h⟩
 |x::r,i,h=>by
  simp only [qY] at h
  split at h
  ·cases h
  ·rename_i hc
   have ih:=Hu d r _ h
   refine ⟨fun y hy=> ?_,ih.2⟩
   rcases List.mem_cons.1 hy with rfl|hy
   ·simp at hc;omega
   ·exact ih.1 y hy
theorem OQ (d:Dir) (route:Int):∀ (l:List Span) (next:Int),kg d l next=0->next<=route->route<65536->∃ x ∈ l,Bq route l=x.bM
 |[],next,h,h1,h2=>by
  simp only [kg] at h
  split at h
  ·cases h
  ·rename_i hc;simp at hc;omega
 |x::r,next,h,h1,h2=>by
  simp only [kg] at h
  split at h
  ·cases h
  ·rename_i hc
   simp at hc
   simp only [Bq]
   split
   ·exact ⟨x,by simp,rfl⟩
   ·rename_i hn
    obtain ⟨y,hy,e⟩:=OQ d route r _ h (by omega) h2
    exact ⟨y,by simp [hy],e⟩
theorem OT (d:Dir):∀ (l:List Span) (next:Int),kg d l next=0->pq d d.l=0
 |[],next,h=>by
  simp only [kg] at h
  split at h
  ·cases h
  ·exact h
 |x::r,next,h=>by
  simp only [kg] at h
  split at h
  ·cases h
  ·exact OT d r _ h
theorem Dir.yH {d:Dir} (h:d.val=0):kg d d.l 0=0/\pq d d.l=0/\qY d d.aM 0=0/\tH d d.aM 0=0:=by
 unfold Dir.val at h
 split at h
 ·cases h
 ·have h2:=OT d _ _ h
  have h4:=OP d _ _ (Ht d _ h2).2
  exact ⟨h,h2,h4,(Hu d _ _ h4).2⟩
theorem Dir.OU {d:Dir} (h:d.val=0) {r:Int} (h0:0<=r) (h1:r<65536):0<=d.owner r/\d.owner r<d.aM.length:=by
 obtain ⟨p1,p2,_,_⟩:=d.yH h
 unfold Dir.owner
 rw [if_neg (by simp [h])]
 obtain ⟨x,hx,e⟩:=OQ d r _ _ p1 h0 h1
 rw [e]
 exact (Ht d _ p2).1 x hx
theorem vN {l:List Int} {p:Int->Prop} (h:∀ x ∈ l,p x) {i:Nat} (hi:i<l.length):p (gI l i):=by
 unfold gI
 rw [List.getElem?_eq_getElem hi]
 exact h _ (List.getElem_mem hi)
theorem OV {d:Dir} (h:∀ x ∈ d.aM,-1<=x/\x<(d.aM.length:Int)):∀ (k:Nat) (s:Int),-1<=s->s<d.aM.length->Br d k s<d.aM.length
 |0,s,_,h2=>h2
 |k+1,s,h1,h2=>by
  simp only [Br]
  split
  ·rename_i hc
   have:=vN h (i:=s.toNat) (by omega)
   exact OV h k _ this.1 this.2
  ·exact h2
theorem OW {d:Dir} (h:d.val=0) (s:Int):0<=tL d s/\tL d s<d.aM.length:=by
 unfold tL
 split
 ·rename_i hc
  refine ⟨hc,?_⟩
  obtain ⟨_,_,p4,_⟩:=d.yH h
  unfold Dir.home at hc ⊢
  split
  ·rename_i hd;rw [if_pos hd] at hc;omega
  ·rename_i hd
   exact OV (Hu d _ _ p4).1 7 s (by omega) (by omega)
 ·exact d.OU h (by omega) (by omega)
def Walk.ok (w:Walk):Prop:=0<=w.next/\w.next<65536
theorem Walk.OX (r:Int):(Walk.begin r).1.ok:=by
 unfold Walk.begin
 split
 ·exact ⟨by simp [Walk.z],by simp [Walk.z]⟩
 ·rename_i h;simp at h;exact ⟨by simp;omega,by simp;omega⟩
theorem Walk.yI (w:Walk) (l h:Int):(w.Bt l h).1.ok:=by
 unfold Walk.Bt
 split
 ·exact ⟨by simp [Walk.z],by simp [Walk.z]⟩
 ·rename_i hc
  simp at hc
  have h1:=Int.tmod_nonneg 65536 (show 0<=h+1 by omega)
  have h2:=Int.tmod_lt_of_pos (h+1) (show (0:Int)<65536 by omega)
  exact ⟨h1,h2⟩
end Go.Eng
namespace Go.Eng
open Go
structure aC.wf (n:Nat) (l:aC):Prop where
 l1:1<=l.cells.length
 l3:l.cells.length<=3
 pI:∀ c ∈ l.cells,0<=c/\c<=(n:Int)
 oh:l.cells.Pairwise (·<·)
 ph:(l.phase=0/\0<=l.got/\l.got<l.cells.length)\/((l.phase=1\/l.phase=4)/\1<=l.got/\l.got<=l.cells.length)\/(l.phase=2/\l.got=0)\/(l.phase=3/\l.got=l.cells.length)\/(l.phase=5/\l.got=0)
theorem OY:∀ (l:List Int) (p:Int),iZ l p=true->(∀ c ∈ l,p<c/\0<=c/\c<=6)/\l.Pairwise (·<·)
 |[],_,_=>by simp
 |c::r,p,h=>by
  simp [iZ,bD] at h
  obtain ⟨h1,h2⟩:=OY r c h.2
  refine ⟨fun x hx=> ?_,List.pairwise_cons.2 ⟨fun x hx=>(h1 x hx).1,h2⟩⟩
  rcases List.mem_cons.1 hx with rfl|hx
  ·omega
  ·have:=h1 x hx;omega
theorem aC.vO {n:Nat} {cells:List Int} (hn:∀ c ∈ cells,c<=(n:Int)) (e:(aC.new cells).2=0):(aC.new cells).1.wf n/\(aC.new cells).1.phase=0/\(aC.new cells).1.cells=cells:=by
 unfold aC.new at e ⊢
 split
 ·rename_i hc;rw [if_pos hc] at e;cases e
 ·rename_i hc;rw [if_neg hc] at e
  simp at hc
  split
  ·rename_i hl
   obtain ⟨h1,h2⟩:=OY _ _ hl
   have:cells.length≠0:=fun h=>hc.1 (List.eq_nil_of_length_eq_zero h)
   exact ⟨⟨by simp only;omega,by simp only;omega,fun c hx=>⟨(h1 c hx).2.1,hn c hx⟩,h2,.inl ⟨rfl,by simp,by simp only;omega⟩⟩,rfl,rfl⟩
  ·rename_i hl;rw [if_neg hl] at e;cases e
theorem aC.vP {n:Nat} {l:aC} (h:l.wf n) (e:l.free.2=0):l.free.1.wf n/\l.free.1.phase=4/\l.free.1.cells=l.cells:=by
 unfold aC.free at e ⊢
 split
 ·rename_i hc;rw [if_pos hc] at e;cases e
 ·rename_i hc
  simp at hc
  refine ⟨⟨h.l1,h.l3,h.pI,h.oh,?_⟩,rfl,rfl⟩
  rcases h.ph with h1|h1|h1|h1|h1
  ·omega
  ·omega
  ·omega
  ·have:=h.l1;exact .inr (.inl ⟨.inr rfl,by simp only;omega,by simp only;omega⟩)
  ·omega
theorem aC.rz {n:Nat} {a:ai} {l:aC} {task:Int} (ha:a.wf n) (h:l.wf n) (e:(l.step a task).2.2=0):
 (l.step a task).1.wf n/\(l.step a task).2.1.wf n/\(l.step a task).2.1.cells=l.cells/\
  ((l.phase=0\/l.phase=1\/l.phase=2)->((l.step a task).2.1.phase=0\/(l.step a task).2.1.phase=1\/(l.step a task).2.1.phase=2\/(l.step a task).2.1.phase=3))/\
  (l.phase=4->((l.step a task).2.1.phase=4\/(l.step a task).2.1.phase=5)):=by
 unfold aC.step at e ⊢
 split
 ·rename_i hc
  rw [if_pos hc] at e
  simp at hc
  have hp:0<=l.got/\l.got<l.cells.length:=by rcases h.ph with h1|h1|h1|h1|h1<;>omega
  simp only at e ⊢
  split
  ·rename_i hd;rw [if_pos hd] at e;exact absurd e hd
  ·rename_i hd
   have ht:=(ai.aa1 ha (Decidable.not_not.1 hd)).1
   split
   ·refine ⟨ht,⟨h.l1,h.l3,h.pI,h.oh,?_⟩,rfl,fun _=> ?_,fun h=>by omega⟩
    ·simp only [beq_iff_eq]
     split
     ·rename_i hq;exact .inr (.inr (.inr (.inl ⟨rfl,hq⟩)))
     ·rename_i hq;exact .inl ⟨hc,by omega,by omega⟩
    ·simp only [beq_iff_eq]
     split
     ·simp
     ·simp [hc]
   ·split
    ·exact ⟨ht,⟨h.l1,h.l3,h.pI,h.oh,.inr (.inl ⟨.inl rfl,by simp only;omega,by simp only;omega⟩)⟩,rfl,fun _=>by simp,fun h=>by omega⟩
    ·exact ⟨ht,h,rfl,fun _=>by simp [hc],fun h=>by omega⟩
 ·rename_i hc;rw [if_neg hc] at e
  split
  ·rename_i hd
   rw [if_pos hd] at e
   simp at hc hd
   have hp:1<=l.got/\l.got<=l.cells.length:=by rcases h.ph with h1|h1|h1|h1|h1<;>omega
   simp only at e ⊢
   split
   ·rename_i hf;rw [if_pos hf] at e;exact absurd e hf
   ·rename_i hf
    have ht:=ai.aa2 ha (Decidable.not_not.1 hf)
    split
    ·refine ⟨ht,⟨h.l1,h.l3,h.pI,h.oh,.inr (.inl ⟨hd,by simp only;omega,by simp only;omega⟩)⟩,rfl,fun hh=> ?_,fun hh=> .inl hh⟩
     simp only;omega
    ·split
     ·rename_i hg
      simp at hg
      exact ⟨ht,⟨h.l1,h.l3,h.pI,h.oh,.inr (.inr (.inr (.inr ⟨rfl,by simp only;omega⟩)))⟩,rfl,fun hh=>by omega,fun hh=> .inr rfl⟩
     ·rename_i hg
      simp at hg
      exact ⟨ht,⟨h.l1,h.l3,h.pI,h.oh,.inr (.inr (.inl ⟨rfl,by simp only;omega⟩))⟩,rfl,fun hh=>by simp,fun hh=>by omega⟩
  ·rename_i hd;rw [if_neg hd] at e
   split
   ·rename_i hf
    simp at hc hd hf
    have hp:l.got=0:=by rcases h.ph with h1|h1|h1|h1|h1<;>omega
    have:=h.l1
    refine ⟨ha,⟨h.l1,h.l3,h.pI,h.oh,?_⟩,rfl,fun _=> ?_,fun hh=>by omega⟩
    ·simp only
     split
     ·exact .inl ⟨rfl,by omega,by omega⟩
     ·exact .inr (.inr (.inl ⟨rfl,hp⟩))
    ·simp only
     split<;>simp
   ·rename_i hf;rw [if_neg hf] at e;cases e
def bE (n:Nat) (l:List Int):Nat:=(l.filter fun c=>decide (c<(n:Int))).length
theorem rA (n:Nat) (l:List Int):bE n l<=l.length:=List.length_filter_le _ _
theorem ah.Hw {n:Nat} {a:ai} (ha:a.wf n) (s:ah):ah.slots a s=bE n s.lock.cells:=by
 unfold ah.slots eT bE;rw [ha.sl]
theorem Hy {n:Nat}:∀ (l:List Int) (k:Nat),l.Pairwise (·<·)->k<l.length->gI l k<n->k<bE n l
 |[],k,_,h,_=>by simp at h
 |c::r,0,hp,_,h=>by
  simp [gI] at h
  simp [bE,h]
 |c::r,k+1,hp,hk,h=>by
  have hp:=List.pairwise_cons.1 hp
  have h':gI r k<n:=by simpa [gI] using h
  have ih:=Hy r k hp.2 (by simpa using hk) h'
  have hm:gI r k ∈ r:=by
   unfold gI;rw [List.getElem?_eq_getElem (by simpa using hk)];exact List.getElem_mem _
  have:c<n:=by have:=hp.1 _ hm;omega
  simp only [bE,List.filter_cons,decide_eq_true_eq,this,if_true,List.length_cons] at ih ⊢
  omega
theorem OZ {n:Nat}:∀ (l:List Int) (k:Nat),l.Pairwise (·<·)->k<bE n l->gI l k<n
 |[],k,_,h=>by simp [bE] at h
 |c::r,k,hp,hk=>by
  have hp:=List.pairwise_cons.1 hp
  by_cases hc:c<n
  ·cases k with
   |zero=>simpa [gI] using hc
   |succ k=>
    have:k<bE n r:=by simp only [bE,List.filter_cons,decide_eq_true_eq,hc,if_true,List.length_cons] at hk ⊢;omega
    simpa [gI] using OZ r k hp.2 this
  ·exfalso
   have:bE n (c::r)=0:=by
    simp only [bE,List.length_eq_zero_iff,List.filter_eq_nil_iff]
    intro x hx
    rcases List.mem_cons.1 hx with rfl|hx
    ·simpa using hc
    ·have:=hp.1 x hx;simp;omega
   omega
structure ah.wf (n:Nat) (s:ah):Prop where
 lk:s.lock.wf n
 p0:s.phase=0->(s.lock.phase=0\/s.lock.phase=1\/s.lock.phase=2)/\s.aA=[]/\s.aH=[]
 p1:s.phase=1->s.lock.phase=3/\s.aA=[]/\0<=s.at_/\s.at_<2*bE n s.lock.cells/\s.aH.length=((s.at_+1) / 2).toNat
 p2:s.phase=2->s.lock.phase=3/\s.aH.length=bE n s.lock.cells/\0<=s.at_/\s.at_<s.lock.cells.length/\s.aA.length=min s.at_.toNat (bE n s.lock.cells)
 p3:3<=s.phase->s.phase<=7->s.lock.phase=3
 q3:3<=s.phase->s.aH.length=bE n s.lock.cells/\s.aA.length=bE n s.lock.cells
 p5:5<=s.phase->s.out.aA.length=bE n s.lock.cells/\(∀ k ∈ s.out.order,0<=k/\k<s.lock.cells.length)
 q5:s.phase=5->0<=s.at_/\s.at_<s.out.order.length
 p6:s.phase=6->0<s.out.dF.length
 p7:s.phase=7->0<=s.at_/\s.at_<bE n s.lock.cells
 p8:s.phase=8->s.lock.phase=4
 lo:0<=s.phase
 hi:s.phase<=9
end Go.Eng
