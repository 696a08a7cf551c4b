/-
  Part of a proof: lemmas and definitions of this work.
  No condition.
-/
import Derived.Test.YthhjbngoibmpgaaGreatH08
import Derived.Test.YthhjbngoibmpgaaGreatH09
set_option linter.all false
set_option maxRecDepth 100000
set_option maxHeartbeats 8000000
namespace Go.Eng
open Go Go.Proofs
attribute [local go_sem] Int.cast_ofNat_Int Int.reduceBEq Int.reduceLT Int.reduceLE Int.reduceSub Int.reduceAdd Int.reduceNeg Int.reduceEq Int.reduceToNat decide_true decide_false decide_eq_true_eq beq_self_eq_true bne_self_eq_false List.reduceReplicate List.length_set List.length_replicate List.length_cons List.length_nil List.set_cons_zero List.set_cons_succ Int.toNat_natCast
attribute [go_sem] oW
def orE (b:List UInt8) (h:Hd):List UInt8:=if h.ok then GR h else b
def hdV (v:Int) (h:Hd):Hd:=
 if v=2 then ⟨h.id,h.gen+1,h.route,h.hint⟩ else if v=3 then ⟨h.id,h.gen - 1,h.route,h.hint⟩ else ⟨h.id,h.gen,(h.route+1).tmod 65536,h.hint⟩
def aaS (v:Int) (b:List UInt8):List UInt8:=match parse b with
 |none=>b
 |some h=>if v=2\/v=3\/v=4 then orE b (hdV v h) else if v=5 then flip b else b
def aaT (i:Int) (n:Nat):Nat:=((max i 0).tmod n).toNat
def aaU (i v:Int) (raw:List UInt8) (hs:List (List UInt8)):List UInt8:=
 if v=7\/hs.length=0 then raw else aaS v (hs[aaT i hs.length]?.getD [])
end Go.Eng
namespace Go.Eng
open Go
def Due.before (a b:Due):Bool:=decide (a.dl<b.dl)||(a.dl==b.dl&&decide (a.id<b.id))
def Due.sound (d:Due):Bool:=decide (0<=d.dl)&&(decide (d.dl<=1073741824)&&(decide (1<=d.id)&&decide (d.id<=1073741824)))
def gD (h:List Due) (i:Nat):Due:=h[i]?.getD Due.z
def j3 (id:Int):List Due->Nat->Int
 |[],_=> -1
 |d::r,i=>if d.id==id then i else j3 id r (i+1)
def yt (h:List Due):List Due->Nat->Int
 |[],_=>0
 |d::r,i=>if d.before (gD h ((i - 1) / 2)) then 11 else yt h r (i+1)
def qR (h:List Due):List Due->Nat->Int
 |[],_=>yt h (h.drop 1) 1
 |d::r,i=>if j3 d.id h 0 !=i then 10 else qR h r (i+1)
def Ba (h:List Due):List Due->Int
 |[]=>qR h h 0
 |d::r=>if d.sound then Ba h r else 1
def iA (h:List Due):Int:=if (12:Int)<h.length then 2 else Ba h h
def Bb (h:List Due) (i k:Nat):List Due:=(h.set i (gD h k)).set k (gD h i)
def yu (h:List Due):Nat->Nat->List Due
 |0,_=>h
 |f+1,i=>if 0<i/\(gD h i).before (gD h ((i - 1) / 2))=true then yu (Bb h i ((i - 1) / 2)) f ((i - 1) / 2) else h
def GV (h:List Due) (i:Nat):Nat:=if 2*i+2<h.length/\(gD h (2*i+2)).before (gD h (2*i+1))=true then 2*i+2 else 2*i+1
def Bc (h:List Due):Nat->Nat->List Due
 |0,_=>h
 |f+1,i=>if 2*i+1<h.length then (if (gD h (GV h i)).before (gD h i) then Bc (Bb h i (GV h i)) f (GV h i) else h) else h
def Bd (h:List Due) (d:Due):List Due×Int:=
 if iA h !=0 then ([],iA h) else if !d.sound then ([],1) else if (h.length:Int)==12 then ([],3) else if decide (0<=j3 d.id h 0) then ([],10)
 else (yu (h++[d]) h.length h.length,0)
def Be (h:List Due) (i:Nat):List Due:=
 let n:=h.length - 1
 let x:=h.take n
 if i=n then x else
  let y:=x.set i (gD h n)
  if 0<i/\(gD y i).before (gD y ((i - 1) / 2))=true then yu y i i else Bc y n i
def yw (h:List Due) (id:Int):List Due×Int:=
 if iA h !=0 then ([],iA h) else if j3 id h 0<0 then ([],4) else (Be h (j3 id h 0).toNat,0)
def OB (now:Int):Nat->List Due->List Int
 |0,_=>[]
 |f+1,h=>if iA h==0/\0<h.length/\(gD h 0).dl<=now then (gD h 0).id::OB now f (Be h 0) else []
def gL (l:List Lease) (i:Nat):Lease:=l[i]?.getD Lease.z
def yx (id:Int):List Lease->Nat->Int
 |[],_=> -1
 |x::r,i=>if x.msg.id==id then i else yx id r (i+1)
def Table.find (t:Table) (id:Int):Int:=yx id t.l 0
def j4 (t:Table):List Due->Int
 |[]=>0
 |d::r=>if t.find d.id<0 then 7 else if (gL t.l (t.find d.id).toNat).dl !=d.dl then 7 else j4 t r
def qU (t:Table):List Lease->Nat->Int
 |[],_=>if iA t.heap !=0 then iA t.heap else if t.heap.length≠t.l.length then 7 else j4 t t.heap
 |x::r,i=>if x.msg.val !=0 then x.msg.val else if x.msg.gen==0 then 7 else if decide (x.dl<0)||decide (1073741824<x.dl) then 1
  else if 0<i/\x.msg.id<=(gL t.l (i - 1)).msg.id then 11 else qU t r (i+1)
def Table.val (t:Table):Int:=if (12:Int)<t.l.length then 2 else qU t t.l 0
def GX (id:Int):List Lease->Nat->Nat
 |[],i=>i
 |x::r,i=>if x.msg.id<id then GX id r (i+1) else i
def Table.grant (t:Table) (m:ak) (dl:Int):Table×Int:=
 if t.val !=0 then (Table.z,t.val) else if m.val !=0 then (Table.z,m.val) else if m.gen==0 then (Table.z,7)
 else if decide (dl<0)||decide (1073741824<dl) then (Table.z,1) else if (t.l.length:Int)==12 then (Table.z,3) else if decide (0<=t.find m.id) then (Table.z,10)
 else (⟨t.l.take (GX m.id t.l 0)++⟨m,dl⟩::t.l.drop (GX m.id t.l 0),(Bd t.heap ⟨dl,m.id⟩).1⟩,0)
def Table.vJ (t:Table) (id:Int):Lease×Bool:=if t.val !=0\/t.find id<0 then (Lease.z,false) else (gL t.l (t.find id).toNat,true)
def Table.release (t:Table) (id:Int):Table×ak×Int:=
 if t.val !=0 then (Table.z,ak.z,t.val) else if t.find id<0 then (Table.z,ak.z,4)
 else (⟨t.l.eraseIdx (t.find id).toNat,(yw t.heap id).1⟩,(gL t.l (t.find id).toNat).msg,0)
def Table.extend (t:Table) (id dl:Int):Table×Int:=
 if t.val !=0 then (Table.z,t.val) else if t.find id<0 then (Table.z,4) else if decide (dl<0)||decide (1073741824<dl) then (Table.z,1)
 else (⟨t.l.set (t.find id).toNat ⟨(gL t.l (t.find id).toNat).msg,dl⟩,(Bd (yw t.heap id).1 ⟨dl,id⟩).1⟩,0)
def GY (t:Table) (epoch:Int):List Int->List Int
 |[]=>[]
 |id::r=>if (t.vJ id).1.msg.epoch<epoch then GY t epoch r else id::GY t epoch r
def Table.OC (t:Table) (now epoch:Int):List Int:=if t.val !=0 then [] else GY t epoch (OB now 13 t.heap)
def Ring.val (r:Ring):Int:=gm r.cells r.head r.size
def Ring.list (r:Ring):List ak:=vH r.cells r.head r.size
def Ring.mk' (n h:Nat) (l:List ak):Ring:=⟨iy n h l,h,l.length⟩
def Ring.room (r:Ring) (m:ak):Int:=vI r.cells r.head r.size m
def Ring.new (k:Int):Ring×Int:=if k<1 then (Ring.z,1) else if 12<k then (Ring.z,1) else (Ring.mk' k.toNat 0 [],0)
def Ring.Bf (r:Ring) (m:ak):Ring×Int:=
 if r.room m≠0 then (Ring.z,r.room m) else (Ring.mk' r.cells.length r.head.toNat (dS r.cells r.head.toNat r.size.toNat++[m]),0)
def Ring.aaV (r:Ring) (m:ak):Ring×Int:=
 if r.room m≠0 then (Ring.z,r.room m) else (Ring.mk' r.cells.length ((r.head.toNat+(r.cells.length - 1)) % r.cells.length) (m::dS r.cells r.head.toNat r.size.toNat),0)
def Ring.remove (r:Ring) (id:Int):Ring×ak×Int:=
 if r.val≠0 then (Ring.z,ak.z,r.val) else if jZ r.list id<0 then (Ring.z,ak.z,4)
 else (Ring.mk' r.cells.length r.head.toNat (r.list.eraseIdx (jZ r.list id).toNat),gt r.list (jZ r.list id).toNat,0)
def Ring.qV (r:Ring) (k:Int):Ring×List ak×Int:=
 if r.val≠0 then (Ring.z,[],r.val) else if k<0\/r.size<k then (Ring.z,[],1)
 else (Ring.mk' r.cells.length r.head.toNat (r.list.take (r.list.length - k.toNat)),r.list.drop (r.list.length - k.toNat),0)
def ak.jr (m:ak) (epoch:Int):Bool:=decide (m.epoch<epoch)
def ak.spent (m:ak) (limit:Int):Bool:=decide (limit<=m.count)
def ak.aaW (m:ak) (epoch limit:Int):Bool:= !m.jr epoch&&(!m.spent limit&&decide (m.gen<65536))
def ak.Bg (m:ak):ak×Int:=if m.val≠0 then (ak.z,m.val) else if m.gen==65536 then (ak.z,6) else if m.count==8 then (ak.z,7)
 else ({m with count:=m.count+1,gen:=m.gen+1},0)
def ak.new (id route epoch now:Int) (body:ByteArray):ak×Int:=
 let m:ak:=⟨id,route,epoch,0,0,now,body⟩
 if m.val≠0 then (ak.z,m.val) else (m,0)
def ak.aaX (m:ak):ak:={m with count:=0}
def ak.Bh (m:ak) (low high:Int):ak:={m with route:=Oe m.route low high}
def qW (low high:Int):Bool:=decide (0<=low)&&(decide (low<=high)&&decide (high<65536))
def aj.new (cap low high:Int):aj×Int:=if (Ring.new cap).2≠0 then (aj.z,(Ring.new cap).2) else if !qW low high then (aj.z,1)
 else (⟨true,low,high,(Ring.new cap).1,Table.z⟩,0)
def aj.free (cap:Int):aj×Int:=if (Ring.new cap).2≠0 then (aj.z,(Ring.new cap).2) else (⟨false,0,0,(Ring.new cap).1,Table.z⟩,0)
def aj.dH (s:aj):List ak:=s.aL.l.map Lease.msg
def aj.all (s:aj):List ak:=s.ready.list++s.dH
def o6 (l:List ak):List ak->Nat->Int
 |[],_=>0
 |m::r,i=>if jZ l m.id !=i then 10 else o6 l r (i+1)
def yA (l:List ak) (low high:Int):List ak->Int
 |[]=>o6 l l 0
 |m::r=>if decide (m.route<low)||decide (high<m.route) then 12 else yA l low high r
def aj.cnt (s:aj):Int:=s.ready.size+s.aL.l.length
def aj.val (s:aj):Int:=if s.ready.val≠0 then s.ready.val else if s.aL.val≠0 then s.aL.val
 else if !s.live then (if s.low !=0||(s.high !=0||decide (0<s.cnt)) then 7 else 0)
 else if !qW s.low s.high then 1 else if (s.ready.cells.length:Int)<s.cnt then 3 else yA s.all s.low s.high s.all
def aj.lv (s:aj):Int:=if s.val≠0 then s.val else if !s.live then 7 else 0
def j5 (n:Int):Bool:=decide (0<=n)&&decide (n<=65536)
def j6 (n:Int):Bool:=decide (1<=n)&&decide (n<=8)
def Bj (n:Int):Bool:=decide (0<=n)&&decide (n<=1073741824)
def GZ (n:Int):Bool:=decide (0<=n)&&decide (n<=1000)
def aj.stored (s:aj):Int:=if s.lv≠0 then 0 else s.cnt
def aj.owns (s:aj) (route:Int):Bool:=s.lv==0&&(decide (s.low<=route)&&decide (route<=s.high))
def eT {α:Type} (p:α->Bool) (l:List α):Int:=(l.filter p).length
def aj.counts (s:aj) (epoch limit:Int):Int×Int:=if s.lv≠0\/j5 epoch=false\/j6 limit=false then (0,0)
 else (eT (fun m:ak=> !m.jr epoch&& !m.spent limit) s.ready.list,eT (fun m:ak=> !m.jr epoch) s.dH)
def aj.put (s:aj) (m:ak):aj×Int:=if s.lv≠0 then (aj.z,s.lv) else if m.val≠0 then (aj.z,m.val)
 else if decide (m.route<s.low)||decide (s.high<m.route) then (aj.z,12) else if s.stored==s.ready.cells.length then (aj.z,3)
 else if decide (0<=jZ s.all m.id) then (aj.z,10) else ({s with ready:=(s.ready.Bf m).1},0)
def qX (max dl epoch limit:Int):List ak->aj->List Lease->aj×List Lease
 |[],s,out=>(s,out)
 |m::r,s,out=>if (out.length:Int)<max then
  (if m.aaW epoch limit then qX max dl epoch limit r {s with ready:=(s.ready.remove m.Bg.1.id).1,aL:=(s.aL.grant m.Bg.1 dl).1} (out++[⟨m.Bg.1,dl⟩])
   else qX max dl epoch limit r s out) else (s,out)
def aj.take (s:aj) (max now eP epoch limit:Int):aj×List Lease×Int:=if s.lv≠0 then (aj.z,[],s.lv)
 else if j5 epoch=false\/j6 limit=false\/Bj now=false\/GZ eP=false\/max<1\/6<max then (aj.z,[],1)
 else if 1073741824<now+eP then (aj.z,[],6)
 else ((qX max (now+eP) epoch limit s.ready.list s []).1,(qX max (now+eP) epoch limit s.ready.list s []).2,0)
def aj.holds (s:aj) (h:Hd) (now epoch:Int):Bool:=if s.lv≠0\/j5 epoch=false\/Bj now=false then false
 else (s.aL.vJ h.id).2&&((s.aL.vJ h.id).1.msg.gen==h.gen&&((s.aL.vJ h.id).1.msg.route==h.route&&(!(s.aL.vJ h.id).1.msg.jr epoch&&decide (now<(s.aL.vJ h.id).1.dl))))
def aj.held (s:aj) (h:Hd) (now epoch:Int) (good:Bool):Int:=if s.lv≠0 then s.lv else if j5 epoch=false\/Bj now=false\/good=false then 1
 else if !s.holds h now epoch then 5 else 0
def aj.G5 (s:aj) (h:Hd) (now epoch:Int):aj×Int:=if s.held h now epoch true≠0 then (aj.z,s.held h now epoch true)
 else ({s with aL:=(s.aL.release h.id).1},0)
def aj.G6 (s:aj) (h:Hd) (now epoch limit:Int):aj×Int:=if s.held h now epoch (j6 limit)≠0 then (aj.z,s.held h now epoch (j6 limit))
 else ({s with aL:=(s.aL.release h.id).1,ready:=if (s.aL.release h.id).2.1.spent limit then (s.ready.Bf (s.aL.release h.id).2.1).1 else (s.ready.aaV (s.aL.release h.id).2.1).1},0)
def aj.change (s:aj) (h:Hd) (now epoch eP:Int):aj×Int:=if s.held h now epoch (GZ eP)≠0 then (aj.z,s.held h now epoch (GZ eP))
 else if 1073741824<now+eP then (aj.z,6) else ({s with aL:=(s.aL.extend h.id (now+eP)).1},0)
def Bl:List Int->aj->aj
 |[],s=>s
 |id::r,s=>Bl r {s with aL:=(s.aL.release id).1,ready:=(s.ready.Bf (s.aL.release id).2.1).1}
def aj.expire (s:aj) (now epoch limit:Int):aj×List Int×Int:=if s.lv≠0 then (aj.z,[],s.lv)
 else if j5 epoch=false\/j6 limit=false\/Bj now=false then (aj.z,[],1)
 else (Bl (s.aL.OC now epoch) s,s.aL.OC now epoch,0)
def yB (epoch:Int):List ak->aj->Int->aj×Int
 |[],s,n=>(s,n)
 |m::r,s,n=>if m.jr epoch then yB epoch r {s with ready:=(s.ready.remove m.id).1} (n+1) else yB epoch r s n
def yC (epoch:Int):List ak->aj->Int->aj×Int
 |[],s,n=>(s,n)
 |m::r,s,n=>if m.jr epoch then yC epoch r {s with aL:=(s.aL.release m.id).1} (n+1) else yC epoch r s n
def aj.clean (s:aj) (epoch:Int):aj×Int×Int:=if s.lv≠0 then (aj.z,0,s.lv) else if j5 epoch=false then (aj.z,0,1)
 else
  let x:=yB epoch s.ready.list s 0
  let y:=yC epoch s.dH x.1 x.2
  (y.1,y.2,0)
def aj.qV (s:aj) (k:Int):aj×List ak×Int:=if s.lv≠0 then (aj.z,[],s.lv) else if (s.ready.qV k).2.2≠0 then (aj.z,[],(s.ready.qV k).2.2)
 else ({s with ready:=(s.ready.qV k).1},(s.ready.qV k).2.1,0)
def Bn (low high:Int):List ak->aj->aj×Int
 |[],s=>(s,0)
 |m::r,s=>if (s.put (m.Bh s.low s.high)).2≠0 then (aj.z,(s.put (m.Bh s.low s.high)).2) else Bn low high r (s.put (m.Bh s.low s.high)).1
def aj.Bp (s:aj) (l:List ak):aj×Int:=if s.lv≠0 then (aj.z,s.lv) else if (s.ready.cells.length:Int) - s.stored<l.length then (aj.z,3)
 else Bn s.low s.high l s
def o7 (k epoch limit:Int):List ak->aj->List ak->aj×List ak
 |[],s,out=>(s,out)
 |m::r,s,out=>if (out.length:Int)<k then
  (if m.spent limit&& !m.jr epoch then o7 k epoch limit r {s with ready:=(s.ready.remove m.id).1} (out++[m]) else o7 k epoch limit r s out) else (s,out)
def aj.yD (s:aj) (k epoch limit:Int):aj×List ak×Int:=if s.lv≠0 then (aj.z,[],s.lv)
 else if j5 epoch=false\/j6 limit=false\/k<0 then (aj.z,[],1)
 else ((o7 k epoch limit s.ready.list s []).1,(o7 k epoch limit s.ready.list s []).2,0)
def yE:List ak->aj->aj
 |[],s=>s
 |m::r,s=>if s.low<=m.route/\m.route<=s.high then yE r {s with ready:=(s.ready.Bf m).1} else yE r s
def yF:List Lease->aj->aj
 |[],s=>s
 |x::r,s=>if s.low<=x.msg.route/\x.msg.route<=s.high then yF r {s with aL:=(s.aL.grant x.msg x.dl).1} else yF r s
def aj.fill (s:aj) (ready:List ak) (aL:List Lease):aj:=yF aL (yE ready s)
def aj.divide (s:aj) (mid:Int):aj×aj×Int:=if s.lv≠0 then (aj.z,aj.z,s.lv) else if decide (mid<s.low)||decide (s.high<=mid) then (aj.z,aj.z,1)
 else ((aj.new s.ready.cells.length s.low mid).1.fill s.ready.list s.aL.l,(aj.new s.ready.cells.length (mid+1) s.high).1.fill s.ready.list s.aL.l,0)
def OD (l:List ak):List ak->Bool
 |[]=>false
 |m::r=>decide (0<=jZ l m.id)||OD l r
def aj.G7 (a b:aj):aj×Int:=if a.val≠0 then (aj.z,a.val) else if b.val≠0 then (aj.z,b.val)
 else if !a.live||(!b.live||((a.high+1 !=b.low)&&(b.high+1 !=a.low))) then (aj.z,7)
 else if (a.ready.cells.length:Int)<a.stored+b.stored then (aj.z,3) else if OD a.all b.all then (aj.z,10)
 else (aj.fill {a with low:=min a.low b.low,high:=max a.high b.high} b.ready.list b.aL.l,0)
def gS (l:List Span) (i:Nat):Span:=l[i]?.getD Span.z
def o8 (slot:Int):List Span->Nat->Int
 |[],_=> -1
 |x::r,i=>if x.bM==slot then i else o8 slot r (i+1)
def Dir.idx (d:Dir) (slot:Int):Int:=o8 slot d.l 0
def Dir.new (slots live:Int):Dir×Int:=if decide (live<1)||(decide (slots<live)||decide (6<slots)) then (Dir.z,1)
 else (⟨1,(List.range live.toNat).map fun i:Nat=>⟨((i:Int)*65536).tdiv live,(((i:Int)+1)*65536).tdiv live - 1,(i:Int)⟩,List.replicate slots.toNat (-1)⟩,0)
def gI (l:List Int) (i:Nat):Int:=l[i]?.getD 0
def aM (f:List Int):Nat->Int->Int
 |0,at_=>at_
 |k+1,at_=>if 0<=at_ then aM f k (gI f at_.toNat) else at_
def tH (d:Dir):List Int->Nat->Int
 |[],_=>0
 |_::r,i=>if 0<=aM d.aM d.aM.length i then 7 else tH d r (i+1)
def qY (d:Dir):List Int->Nat->Int
 |[],_=>tH d d.aM 0
 |x::r,i=>if decide (x< -1)||(decide ((d.aM.length:Int)<=x)||(decide (0<=d.idx i)&&x != -1)) then 7 else qY d r (i+1)
def o9 (d:Dir):List Span->Nat->Int
 |[],_=>qY d d.aM 0
 |x::r,i=>if d.idx x.bM !=i then 10 else o9 d r (i+1)
def pq (d:Dir):List Span->Int
 |[]=>o9 d d.l 0
 |x::r=>if decide (x.bM<0)||decide ((d.aM.length:Int)<=x.bM) then 4 else pq d r
def kg (d:Dir):List Span->Int->Int
 |[],next=>if next !=65536 then 7 else pq d d.l
 |x::r,next=>if x.low !=next||(decide (x.high<x.low)||decide (65536<=x.high)) then 7 else kg d r (x.high+1)
def Dir.val (d:Dir):Int:=if decide (d.version<1)||(decide (1099511627776<d.version)||(decide ((d.aM.length:Int)<1)||decide (6<(d.aM.length:Int)))) then 1 else kg d d.l 0
def Bq (route:Int):List Span->Int
 |[]=> -1
 |x::r=>if x.low<=route/\route<=x.high then x.bM else Bq route r
def Dir.owner (d:Dir) (route:Int):Int:=if d.val≠0 then -1 else Bq route d.l
def Dir.span (d:Dir) (slot:Int):Span×Bool:=if d.val≠0\/d.idx slot<0 then (Span.z,false) else (gS d.l (d.idx slot).toNat,true)
def Br (d:Dir):Nat->Int->Int
 |0,slot=>slot
 |k+1,slot=>if 0<=slot/\d.idx slot<0 then Br d k (gI d.aM slot.toNat) else slot
def Dir.home (d:Dir) (slot:Int):Int:=if d.val≠0\/slot<0\/(d.aM.length:Int)<=slot then -1 else Br d 7 slot
def Dir.apply (d:Dir) (e:eB):Dir×Int:=if d.val≠0 then (Dir.z,d.val) else if d.version==1099511627776 then (Dir.z,6)
 else if e.kind !=1&&e.kind !=2 then (Dir.z,9)
 else if decide (e.dR<0)||(decide ((d.aM.length:Int)<=e.dR)||(decide (e.to<0)||decide ((d.aM.length:Int)<=e.to))) then (Dir.z,4)
 else
  let i:=d.idx e.dR
  let k:=d.idx e.to
  if e.kind==1 then
   (if decide (i<0)||decide (0<=k) then (Dir.z,7) else
    let s:=gS d.l i.toNat
    if decide (e.mid<s.low)||decide (s.high<=e.mid) then (Dir.z,1)
    else (⟨d.version+1,d.l.take i.toNat++⟨s.low,e.mid,e.dR⟩::⟨e.mid+1,s.high,e.to⟩::d.l.drop (i.toNat+1),d.aM.set e.to.toNat (-1)⟩,0))
  else if decide (i<0)||(decide (k<0)||(i - k !=1&&k - i !=1)) then (Dir.z,7)
  else
   let f:=(min i k).toNat
   (⟨d.version+1,d.l.take f++⟨(gS d.l f).low,(gS d.l (f+1)).high,e.to⟩::d.l.drop (f+2),d.aM.set e.dR.toNat e.to⟩,0)
def aG.begin (s:aG):aG×Int:=if decide (s.seq<0)||decide (1099511627776<s.seq) then (aG.z,1) else if s.seq.tmod 2==1 then (aG.z,7)
 else if 1099511627774<s.seq then (aG.z,6) else ({s with seq:=s.seq+1},0)
def aG.done (s:aG) (x:aj) (epoch limit:Int):aG×Int:=if decide (s.seq<0)||decide (1099511627776<s.seq) then (aG.z,1) else if s.seq.tmod 2==0 then (aG.z,7)
 else if x.val≠0 then (aG.z,x.val) else if decide (epoch<0)||(decide (65536<epoch)||(decide (limit<1)||decide (8<limit))) then (aG.z,1)
 else (⟨s.seq+1,epoch,(x.counts epoch limit).1,(x.counts epoch limit).2⟩,0)
def nX (l:List aG):Bool:=l.all fun s=>s.seq.tmod 2==0
def cN (n:Int):Bool:=decide (0<=n)&&decide (n<=1099511627776)
def G8 (epoch:Int):List aG->Int->Int->Int×Int
 |[],r,l=>(r,l)
 |s::t,r,l=>if s.epoch==epoch&&(cN s.seq&&(cN s.ready&&cN s.dH)) then G8 epoch t (IntKind.i64.wrap (r+s.ready)) (IntKind.i64.wrap (l+s.dH)) else G8 epoch t r l
def aG.same (a b:aG):Bool:=(a.seq==b.seq)&&((a.epoch==b.epoch)&&((a.ready==b.ready)&&(a.dH==b.dH)))
def OE:List aG->List aG->Bool
 |[],[]=>true
 |a::l,b::m=>a.same b&&OE l m
 |_,_=>false
def bD (n low high:Int):Bool:=decide (low<=n)&&decide (n<=high)
def Setup.good (s:Setup):Bool:=bD s.slots 1 6&&(bD s.live 1 s.slots&&(bD s.capacity 1 12&&(bD s.dead 1 24&&(bD s.limit 1 8&&(bD s.clock 0 1073741824&&(bD s.fI 1 1073741824&&bD s.epoch 0 65536))))))
def nY (s:Setup) (i:Nat):Slot:=if (i:Int)<s.live then ⟨0,(aj.new s.capacity (gS (Dir.new s.slots s.live).1.l i).low (gS (Dir.new s.slots s.live).1.l i).high).1⟩ else ⟨0,(aj.free s.capacity).1⟩
def ai.new (s:Setup):ai×Int:=if !s.good then (ai.z,1)
 else (⟨(List.range s.slots.toNat).map (nY s),List.replicate s.slots.toNat ⟨0,s.epoch,0,0⟩,⟨0,⟨s.dead,[]⟩⟩,(Dir.new s.slots s.live).1,s.epoch,s.clock,s.fI⟩,0)
def ai.slot (a:ai) (i:Int):Bool:=decide (0<=i)&&decide (i<(a.slots.length:Int))
def nZ (i:Int):Bool:=decide (1<=i)&&decide (i<=200)
def dX (l:List Slot) (i:Nat):Slot:=l[i]?.getD Slot.z
def fC (l:List aG) (i:Nat):aG:=l[i]?.getD aG.z
def ai.owner (a:ai) (cell:Int):Int:=if cell==a.slots.length then a.dead.owner else (dX a.slots cell.toNat).owner
def ai.own (a:ai) (cell who:Int):ai:=if cell==a.slots.length then {a with dead:={a.dead with owner:=who}}
 else {a with slots:=a.slots.set cell.toNat {dX a.slots cell.toNat with owner:=who}}
def ai.tryLock (a:ai) (cell who:Int):ai×Bool×Int:=if decide (cell<0)||(decide ((a.slots.length:Int)<cell)|| !nZ who) then (ai.z,false,1)
 else if a.owner cell !=0 then (a,false,0) else (a.own cell who,true,0)
def ai.unlock (a:ai) (cell who:Int):ai×Int:=if decide (cell<0)||(decide ((a.slots.length:Int)<cell)|| !nZ who) then (ai.z,1)
 else if a.owner cell !=who then (ai.z,13) else (a.own cell 0,0)
def ai.fD (a:ai) (i:Int):aj×Int:=if !a.slot i then (aj.z,1) else ((dX a.slots i.toNat).bM,0)
def ai.jJ (a:ai) (i:Int):aG×Int:=if !a.slot i then (aG.z,1) else (fC a.aH i.toNat,0)
def ai.storable (a:ai) (i who:Int):Int:=if !a.slot i|| !nZ who then 1 else if (dX a.slots i.toNat).owner !=who then 13 else 0
def ai.iB (a:ai) (i who:Int) (s:aj):ai×Int:=if a.storable i who≠0 then (ai.z,a.storable i who) else if s.val≠0 then (ai.z,s.val)
 else if s.ready.cells.length≠(dX a.slots i.toNat).bM.ready.cells.length then (ai.z,1)
 else ({a with slots:=a.slots.set i.toNat {dX a.slots i.toNat with bM:=s}},0)
def ai.gU (a:ai) (i who:Int) (s:aG):ai×Int:=if a.storable i who≠0 then (ai.z,a.storable i who)
 else if !(bD s.seq 0 1099511627776)||(!(bD s.epoch 0 1099511627776)||(!(bD s.ready 0 1099511627776)|| !(bD s.dH 0 1099511627776))) then (ai.z,1)
 else ({a with aH:=a.aH.set i.toNat s},0)
def Dead.val (d:Dead):Int:=qO d.cap d.l
def ai.iC (a:ai) (who:Int) (d:Dead):ai×Int:=if !nZ who then (ai.z,1) else if a.dead.owner !=who then (ai.z,13) else if d.val≠0 then (ai.z,d.val)
 else if d.cap !=a.dead.dead.cap then (ai.z,1) else ({a with dead:={a.dead with dead:=d}},0)
def ai.qZ (a:ai) (version:Int) (d:Dir):ai×Bool×Int:=if d.val≠0 then (ai.z,false,d.val) else if d.aM.length≠a.slots.length then (ai.z,false,1)
 else if a.dir.version !=version then (a,false,0) else ({a with dir:=d},true,0)
def ai.load (a:ai) (word:Int):Int×Int:=if word==1 then (a.epoch,0) else if word==2 then (a.clock,0) else if word==3 then (a.fI,0) else (0,9)
def ai.rf (a:ai) (word old next:Int):ai×Bool×Int:=if word !=1&&word !=3 then (ai.z,false,9)
 else if (word==1&& !bD next 0 65536)||(word==3&& !bD next 1 1073741824) then (ai.z,false,1)
 else if (a.load word).1 !=old then (a,false,0) else if word==1 then ({a with epoch:=next},true,0) else ({a with fI:=next},true,0)
def ai.tick (a:ai) (bW:Int):ai×Int:=if !bD bW 0 1099511627776 then (ai.z,1) else if 1073741824<IntKind.i64.wrap (a.clock+bW) then (ai.z,6) else ({a with clock:=IntKind.i64.wrap (a.clock+bW)},0)
def iZ:List Int->Int->Bool
 |[],_=>true
 |c::r,p=>(bD c 0 6&&decide (p<c))&&iZ r c
def aC.new (cells:List Int):aC×Int:=if (cells.length:Int)==0||decide (3<(cells.length:Int)) then (aC.z,2) else if iZ cells (-1) then (⟨cells,0,0,0,0⟩,0) else (aC.z,1)
def aC.step (a:ai) (l:aC) (task:Int):ai×aC×Int:=
 if l.phase==0 then
  (let x:=a.tryLock (gI l.cells l.got.toNat) task
   if x.2.2≠0 then (ai.z,aC.z,x.2.2)
   else if x.2.1 then (x.1,{l with got:=l.got+1,phase:=if l.got+1==l.cells.length then 3 else l.phase},0)
   else if 0<l.got then (x.1,{l with phase:=1},0) else (x.1,l,0))
 else if l.phase==1||l.phase==4 then
  (let x:=a.unlock (gI l.cells (l.got - 1).toNat) task
   if x.2≠0 then (ai.z,aC.z,x.2)
   else if 0<l.got - 1 then (x.1,{l with got:=l.got - 1},0)
   else if l.phase==4 then (x.1,{l with got:=l.got - 1,phase:=5},0)
   else (x.1,{l with got:=l.got - 1,tries:=IntKind.i64.wrap (l.tries+1),wait:=min (IntKind.i64.wrap (l.tries+1)) 3,phase:=2},0))
 else if l.phase==2 then (a,{l with wait:=IntKind.i64.wrap (l.wait - 1),phase:=if IntKind.i64.wrap (l.wait - 1)==0 then 0 else 2},0)
 else (ai.z,aC.z,7)
def aC.free (l:aC):aC×Int:=if l.phase !=3 then (aC.z,7) else ({l with phase:=4},0)
def dx.step (a:ai) (s:dx) (n:Int):dx×Int:=
 if s.phase==0 then ({s with epoch:=a.epoch,phase:=1},0) else if s.phase==1 then ({s with clock:=a.clock,stamp:=n,phase:=2},0)
 else if s.phase==2 then (if a.epoch==s.epoch then ({s with phase:=3},0) else ({s with epoch:=a.epoch,phase:=1},0))
 else if s.phase==3 then (dx.z,7) else (dx.z,1)
def ah.new (cells:List Int) (limit:Int):ah×Int:=if (aC.new cells).2≠0 then (ah.z,(aC.new cells).2) else if decide (limit<1)||decide (8<limit) then (ah.z,1)
 else ({ah.z with lock:=(aC.new cells).1,limit:=limit},0)
def ah.enter (s:ah) (ph:Int):ah:={s with phase:=ph,at_:=0}
def ah.slots (a:ai) (s:ah):Int:=eT (fun c:Int=>decide (c<(a.slots.length:Int))) s.lock.cells
def bV (l:List aj) (i:Nat):aj:=l[i]?.getD aj.z
def ah.mark (a:ai) (s:ah) (task:Int):ai×ah×Int:=
 let i:=(s.at_.tdiv 2).toNat
 let cell:=gI s.lock.cells i
 if s.at_.tmod 2==0 then (a,{s with aH:=s.aH++[(a.jJ cell).1],at_:=s.at_+1},(a.jJ cell).2)
 else
  let x:=(fC s.aH i).begin
  if x.2≠0 then (a,s,x.2) else
   let y:=a.gU cell task x.1
   let s':ah:={s with aH:=s.aH.take i++[x.1],at_:=s.at_+1}
   (y.1,if y.2==0&&s'.at_==2*ah.slots y.1 s' then s'.enter 2 else s',y.2)
def ah.load (a:ai) (s:ah):ai×ah×Int:=
 let cell:=gI s.lock.cells s.at_.toNat
 let y:ah×Int:=if cell==a.slots.length then ({s with dead:=a.dead.dead},0) else ({s with aA:=s.aA++[(a.fD cell).1]},(a.fD cell).2)
 let s':ah:={y.1 with at_:=s.at_+1}
 (a,if s'.at_==s'.lock.cells.length then s'.enter 3 else s',y.2)
def ah.eD (s:ah):ah×Int:=if s.lock.free.2≠0 then (s,s.lock.free.2) else (ah.enter {s with lock:=s.lock.free.1} 8,0)
def ah.dz (s:ah):ah×Int:=if 0<s.aH.length then (s.enter 7,0) else s.eD
def ah.store (a:ai) (s:ah) (task:Int):ai×ah×Int:=
 let k:=gI s.out.order s.at_.toNat
 let cell:=gI s.lock.cells k.toNat
 let y:=if cell==a.slots.length then a.iC task s.out.dead else a.iB cell task (bV s.out.aA k.toNat)
 if y.2≠0 then (y.1,s,y.2)
 else if s.at_+1<s.out.order.length then (y.1,{s with at_:=s.at_+1,carry:=s.out.carry},0)
 else if 0<s.out.dF.length then (y.1,ah.enter {s with carry:=[]} 6,0)
 else (y.1,(ah.dz {s with at_:=s.at_+1,carry:=[]}).1,(ah.dz {s with at_:=s.at_+1,carry:=[]}).2)
def gE (l:List eB) (i:Nat):eB:=l[i]?.getD eB.z
def ah.ko (a:ai) (s:ah):ai×ah×Int:=
 if s.at_==0 then (a,{s with dir:=a.dir,at_:=1},0)
 else
  let d:=s.dir.apply (gE s.out.dF 0)
  if d.2≠0 then (a,s,d.2) else
   let x:=a.qZ s.dir.version d.1
   if x.2.2≠0 then (a,s,x.2.2) else if !x.2.1 then (x.1,{s with at_:=0},0)
   else (x.1,(ah.dz {s with dir:=d.1}).1,(ah.dz {s with dir:=d.1}).2)
def ah.tJ (s:ah) (k:Int):Bool:=s.out.order.any fun x=>x==k
def ah.ji (a:ai) (s:ah) (task:Int):ai×ah×Int:=
 let i:=s.at_.toNat
 let now:=if s.tJ s.at_ then bV s.out.aA i else bV s.aA i
 let x:=(fC s.aH i).done now s.aO.epoch s.limit
 if x.2≠0 then (a,s,x.2) else
  let y:=a.gU (gI s.lock.cells i) task x.1
  if y.2≠0 then (y.1,s,y.2) else
   let s':ah:={s with at_:=s.at_+1}
   if s'.at_==s'.aH.length then (y.1,s'.eD.1,s'.eD.2) else (y.1,s',0)
def ah.step0 (a:ai) (s:ah) (task n:Int):ai×ah×Int:=
 if s.phase==0 then
  (let x:=s.lock.step a task
   let s':ah:={s with lock:=x.2.1}
   if x.2.2==0&&x.2.1.phase==3 then
    (x.1,if ah.slots a (s'.enter 1)==0 then (s'.enter 1).enter 2 else s'.enter 1,x.2.2)
   else (x.1,s',x.2.2))
 else if s.phase==1 then s.mark a task else if s.phase==2 then s.load a
 else if s.phase==3 then
  (let x:=s.aO.step a n
   let s':ah:={s with aO:=x.1}
   (a,if x.2==0&&x.1.phase==3 then s'.enter 4 else s',x.2))
 else if s.phase==5 then s.store a task else if s.phase==6 then s.ko a else if s.phase==7 then s.ji a task
 else if s.phase==8 then
  (let x:=s.lock.step a task
   let s':ah:={s with lock:=x.2.1}
   (x.1,if x.2.2==0&&x.2.1.phase==5 then s'.enter 9 else s',x.2.2))
 else (a,s,7)
def ah.step (a:ai) (s:ah) (task n:Int):ai×ah×Int:=
 if (s.step0 a task n).2.2≠0 then (ai.z,ah.z,(s.step0 a task n).2.2) else ((s.step0 a task n).1,(s.step0 a task n).2.1,0)
def ah.bg (s:ah):bL:=⟨s.aA,s.dead,[],[],[]⟩
def fe (cells:List Int):List Int->List Int->Bool
 |[],_=>true
 |k::r,old=>(decide (0<=k)&&decide (k<(cells.length:Int)))&&(!(old.any fun x=>x==k)&&fe cells r (old++[k]))
def ah.fE (s:ah) (o:bL):ah×Int:=if s.phase !=4 then (ah.z,7)
 else if o.aA.length≠s.aA.length\/1<o.dF.length then (ah.z,1) else if fe s.lock.cells o.order []=false then (ah.z,1)
 else if 0<o.order.length then (ah.enter {s with out:=o} 5,0) else if 0<o.dF.length then (ah.enter {s with out:=o} 6,0)
 else ah.dz {s with out:=o}
def Walk.begin (route:Int):Walk×Int:=if decide (route<0)||decide (65536<=route) then (Walk.z,1) else (⟨route,0⟩,0)
def Walk.Bt (w:Walk) (low high:Int):Walk×Int:=if decide (low<0)||(decide (w.next<low)||(decide (high<w.next)||(decide (65536<=high)||(decide (w.covered<0)||decide (65536<=w.covered))))) then (Walk.z,1)
 else (⟨(high+1).tmod 65536,w.covered+high - w.next+1⟩,0)
def Walk.over (w:Walk):Bool:=decide (65536<=w.covered)
def aaY (l:List ByteArray):Bool:=l.any fun b=>decide (16<b.size)
def fM.val (i:fM) (s:Setup):Int:=
 let slot:=IntKind.i64.wrap (s.slots - 1)
 if i.kind==1 then (if (i.bodies.length:Int)==0||decide (6<(i.bodies.length:Int)) then 2 else if aaY i.bodies then 2 else 0)
 else if i.kind==2||i.kind==8 then (if !bD i.home 0 slot||(!bD i.max_ 1 6||(i.kind==2&& !bD i.eP 0 1000)) then 1 else 0)
 else if i.kind==3||(i.kind==4||i.kind==5) then (if (i.tokens.length:Int)==0||decide (6<(i.tokens.length:Int)) then 2 else if i.kind==5&& !bD i.eP 0 1000 then 1 else 0)
 else if i.kind==9||(i.kind==10||i.kind==11) then (if !bD i.dR 0 slot||(!bD i.to 0 slot||i.dR==i.to) then 1 else 0)
 else if i.kind==12||i.kind==14 then (if !bD i.dR 0 slot then 1 else 0)
 else if i.kind==13 then (if decide (i.dR<0)||decide (s.slots<i.dR) then 1 else 0)
 else if i.kind==6||i.kind==7 then 0 else 9
def fM.entries (i:fM):Int:=if i.kind==1 then i.bodies.length else if i.kind==3||(i.kind==4||i.kind==5) then i.tokens.length else 1
def Task.start (number:Int) (i:fM) (s:Setup) (n:Int):Task×Int:=
 if decide (number<1)||(decide (200<number)||decide (n<0)) then (Task.z,1) else if (ai.new s).2≠0 then (Task.z,(ai.new s).2)
 else if i.val s≠0 then (Task.z,i.val s) else ({Task.z with number:=number,inv:=i,setup:=s,invoked:=n},0)
def Task.next (t:Task) (r:bI) (n:Int):Task:=
 {Task.z with number:=t.number,inv:=t.inv,setup:=t.setup,invoked:=t.invoked,entry:=t.entry+1,results:=t.results++[r],dn:=if t.entry+1==t.inv.entries then true else t.dn,ended:=if t.entry+1==t.inv.entries then n else t.ended}
abbrev kV:=ai×Task×List Ev×Int
def Task.guard (t:Task) (low high:Int):Int:=if t.dn then 7 else if decide (t.inv.kind<low)||decide (high<t.inv.kind) then 9 else 0
def fV (e:Int):kV:=(ai.z,Task.z,[],e)
def Task.kW (t:Task) (cells:List Int) (pc:Int):Task:={t with sec:=(ah.new cells t.setup.limit).1,pc:=pc}
def OG (a b:Int):List Int:=[min a b,max a b]
def Task.go (a:ai) (t:Task) (n:Int):ai×Task×Bool×Bool×Int:=
 let x:=t.sec.step a t.number n
 if x.2.2≠0 then (ai.z,Task.z,false,false,x.2.2) else (x.1,{t with sec:=x.2.1},x.2.1.phase==4,x.2.1.phase==9,0)
def Task.dec (t:Task) (o:bL):Task:={t with sec:=(t.sec.fE o).1}
def Task.ev (t:Task) (kind n:Int):Ev:={Ev.z with stamp:=n,task:=t.number,entry:=t.entry,kind:=kind}
def Task.qL (t:Task) (kind:Int):Ev:={Ev.z with stamp:=t.sec.aO.stamp,task:=t.number,entry:=t.entry,kind:=kind,now:=t.sec.aO.clock,epoch:=t.sec.aO.epoch}
def Task.look (a:ai) (t:Task) (route pc:Int):Task:=Task.kW {t with dir:=a.dir,slot:=a.dir.owner route} [a.dir.owner route] pc
def gB (l:List ByteArray) (i:Nat):ByteArray:=l[i]?.getD ⟨#[]⟩
def pu (t:Task):Task×List Ev:=
 let s:=bV t.sec.aA 0
 let t1:Task:={t with loaded:=0}
 let o:=t.sec.bg
 if !s.owns t.walk.next then (t1.dec o,[])
 else
  let v:=t1.qL 2
  if s.stored==s.ready.cells.length then
   (let w:=(t.walk.Bt s.low s.high).1
    let t2:Task:={t1 with walk:=w}
    if !w.over then (t2.dec o,[]) else (Task.dec {t2 with loaded:=2} o,[{v with err:=3,l:=[⟨t.id,0,0,0⟩]}]))
  else
   let m:=(ak.new t.id (Oe (Og t.id) s.low s.high) t.sec.aO.epoch t.sec.aO.clock (gB t.inv.bodies t.entry.toNat)).1
   let x:=(s.put m).1
   (Task.dec {t1 with loaded:=1} {o with aA:=[x],order:=[0]},[{v with l:=[⟨t.id,0,m.route,0⟩]}])
def tK (a:ai) (t:Task) (n:Int):kV:=
 if t.guard 1 1≠0 then fV (t.guard 1 1)
 else if t.pc==0 then
  (let t1:Task:={t with loaded:=a.fI}
   if a.fI==1073741824 then (a,t1.next {bI.z with err:=6} n,[{t1.ev 2 n with err:=6}],0) else (a,{t1 with pc:=1},[],0))
 else if t.pc==1 then
  (let x:=a.rf 3 t.loaded (IntKind.i64.wrap (t.loaded+1))
   if x.2.2≠0 then fV x.2.2
   else if x.2.1 then (x.1,{t with id:=t.loaded,pc:=2,walk:=(Walk.begin (Og t.loaded)).1},[],0) else (x.1,{t with pc:=0},[],0))
 else if t.pc==2 then (a,t.look a t.walk.next 3,[],0)
 else
  let x:=t.go a n
  if x.2.2.2.2≠0 then fV x.2.2.2.2
  else if x.2.2.1 then (x.1,(pu x.2.1).1,(pu x.2.1).2,0)
  else if !x.2.2.2.1 then (x.1,x.2.1,[],0)
  else if x.2.1.loaded==1 then (x.1,x.2.1.next {bI.z with id:=x.2.1.id} n,[],0)
  else if x.2.1.loaded==2 then (x.1,x.2.1.next {bI.z with err:=3} n,[],0)
  else (x.1,{x.2.1 with pc:=2},[],0)
end Go.Eng
