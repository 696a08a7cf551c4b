/-
  Part of a proof: lemmas and definitions of this work.
  No condition.
-/
import Derived.Test.YthhjbngoibmpgaaGreatA08
import Derived.Test.YthhjbngoibmpgaaGreatA11
set_option linter.all false
set_option maxRecDepth 100000
set_option maxHeartbeats 8000000
namespace Go.Eng
open Go Go.Proofs
attribute [local go_sem] Int.cast_ofNat_Int Int.reduceBEq Int.reduceLT Int.reduceLE Int.reduceSub Int.reduceAdd Int.reduceNeg Int.reduceEq Int.reduceToNat decide_true decide_false decide_eq_true_eq beq_self_eq_true bne_self_eq_false List.reduceReplicate List.length_set List.length_replicate List.length_cons List.length_nil List.set_cons_zero List.set_cons_succ Int.toNat_natCast
def yP (b:List UInt8):AV:=match parse b with
 |some h=> .aF [.agg h.enc,I 0]
 |none=> .aF [.agg zH.enc,I 8]
theorem Ng {b:List UInt8} (h:parse b=none):yP b= .aF [.agg zH.enc,I 8]:=by unfold yP;rw [h]
theorem abK {b:List UInt8} {x:Hd} (h:parse b=some x):yP b= .aF [.agg x.enc,I 0]:=by unfold yP;rw [h]
theorem b10:((1:Int) !=0)=true:=rfl
theorem akZ {p:Prop} [Decidable p] (h:¬ p):decide p=false:=by simp [h]
theorem abL (b:List UInt8):Fn Tryz.prog 88 [gK b] [] (yP b) [] []:=by
 refine Fn.aO aio (by simp) ?_
 unfold QC SC.mk'
 simp only [go_sem]
 by_cases h1:b.length=16
 ·have e1:((b.length:Int) !=16)=false:=by simp [h1]
  simp only [e1,go_sem]
  refine aQ (Nf b 1 4 (by omega) (by omega) (by omega)) rfl rfl ?_;simp only [go_sem]
  refine aQ (Nf b 5 3 (by omega) (by omega) (by omega)) rfl rfl ?_;simp only [go_sem]
  refine aQ (Nf b 8 2 (by omega) (by omega) (by omega)) rfl rfl ?_;simp only [go_sem]
  refine aQ (Nf b 10 1 (by omega) (by omega) (by omega)) rfl rfl ?_;simp only [go_sem]
  have hF:=Dm (qf b)
  unfold encR at hF
  by_cases hk:(qf b).ok
  ·rw [if_pos hk] at hF
   refine aQ hF rfl rfl ?_;simp only [go_sem]
   have hq:(qf b).id=gN b 1 4/\(qf b).gen=gN b 5 3/\(qf b).route=gN b 8 2/\(qf b).hint=gN b 10 1:=⟨rfl,rfl,rfl,rfl⟩
   refine aQ (akY (wM (qf b)) b) rfl rfl ?_;simp only [go_sem]
   by_cases ht:wM (qf b)=b
   ·have hp:parse b=some (qf b):=by unfold parse;rw [if_pos ⟨h1,hk,ht⟩]
    rw [abK hp]
    simp only [ht,go_sem]
    exact Fin.bI _ rfl rfl rfl rfl
   ·have hp:parse b=none:=by unfold parse;rw [if_neg (fun h=>ht h.2.2)]
    rw [Ng hp]
    simp only [akZ ht,go_sem]
    exact Fin.bI _ rfl rfl rfl rfl
  ·rw [if_neg hk] at hF
   refine aQ hF rfl rfl ?_;simp only [go_sem]
   have hp:parse b=none:=by unfold parse;rw [if_neg (fun h=>hk h.2.1)]
   rw [Ng hp]
   simp only [b10,go_sem]
   exact Fin.bI _ rfl rfl rfl rfl
 ·have e1:((b.length:Int) !=16)=true:=by simp;omega
  have hp:parse b=none:=by unfold parse;rw [if_neg (fun h=>h1 h.1)]
  rw [Ng hp]
  simp only [e1,go_sem]
  exact Fin.bI _ rfl rfl rfl rfl
end Go.Eng
namespace Go.Eng
open Go Go.Proofs
attribute [local go_sem] Int.cast_ofNat_Int Int.reduceBEq Int.reduceLT Int.reduceLE Int.reduceSub Int.reduceAdd Int.reduceNeg Int.reduceEq Int.reduceToNat decide_true decide_false decide_eq_true_eq beq_self_eq_true bne_self_eq_false List.reduceReplicate List.length_set List.length_replicate List.length_cons List.length_nil List.set_cons_zero List.set_cons_succ Int.toNat_natCast
theorem abM {hs:List (List UInt8)} {k:Nat} (h:k<hs.length):nth (bW hs) k=[gK (hs[k]?.getD [])]:=by simp [bW,nth,h]
attribute [go_sem] dZ
def Dn (b:List UInt8) (h:Hd):List UInt8:=if h.ok then wM h else b
def Dp (v:Int) (h:Hd):Hd:=
 if v=2 then ⟨h.id,h.gen+1,h.route,h.hint⟩ else if v=3 then ⟨h.id,h.gen - 1,h.route,h.hint⟩ else ⟨h.id,h.gen,(h.route+1).tmod 65536,h.hint⟩
def Dq (v:Int) (b:List UInt8):List UInt8:=match parse b with
 |none=>b
 |some h=>if v=2\/v=3\/v=4 then Dn b (Dp v h) else if v=5 then flip b else b
def VQ (i:Int) (n:Nat):Nat:=((max i 0).tmod n).toNat
def yQ (i v:Int) (raw:List UInt8) (hs:List (List UInt8)):List UInt8:=
 if v=7\/hs.length=0 then raw else Dq v (hs[VQ i hs.length]?.getD [])
theorem ak0 {v:Int} {b:List UInt8} (h:parse b=none):Dq v b=b:=by unfold Dq;rw [h]
theorem ak1 {v:Int} {b:List UInt8} {x:Hd} (h:parse b=some x):Dq v b=if v=2\/v=3\/v=4 then Dn b (Dp v x) else if v=5 then flip b else b:=by unfold Dq;rw [h]
theorem ak2 {b:List UInt8} {x:Hd} (h:parse b=some x):b.length=16:=by
 unfold parse at h
 split at h
 ·rename_i c;exact c.1
 ·cases h
theorem ak3 (b:List UInt8) (k:Nat) (x:UInt8):(dL b).set k [B8 x]=dL (b.set k x):=by simp [dL,List.map_set]
theorem ak4 (x:UInt8):((x.toNat ^^^ 1:Nat):Int)=(((x ^^^ 1).toNat:Nat):Int):=rfl
theorem ak5 (b:List UInt8):(flip b).length=b.length:=by simp [flip]
theorem ak6 {b:List UInt8} (hl:b.length=16):(dL b).set 15 [.v (.int .u8 ((oF b 15 ^^^ 1:Nat):Int))]=dL (flip b):=by
 unfold oF flip
 rw [ak4,hl]
 exact ak3 b 15 _
theorem b80:((8:Int) !=0)=true:=rfl
theorem abN (i v:Int) (raw:List UInt8) (hs:List (List UInt8)):Fn Tryz.prog 176 [.agg [I i,I v,gK raw],.sl 1 (bW hs)] [] (gK (yQ i v raw hs)) [] []:=by
 refine Fn.aO aiD (by simp) ?_
 unfold RO SC.mk' yQ
 by_cases h7:v=7
 ·have e7:(v==7)=true:=by simp [h7]
  rw [if_pos (Or.inl h7)]
  simp only [e7,go_sem]
  exact Fin.bI _ rfl rfl rfl rfl
 have e7:(v==7)=false:=by simp [h7]
 by_cases h0:hs.length=0
 ·have e0:((hs.length:Int)==0)=true:=by simp [h0]
  rw [if_pos (Or.inr h0)]
  simp only [e7,e0,go_sem]
  exact Fin.bI _ rfl rfl rfl rfl
 have e0:((hs.length:Int)==0)=false:=by simp [h0]
 rw [if_neg (by omega)]
 have hm0:0<=(max i 0).tmod (hs.length:Int):=Int.tmod_nonneg _ (by omega)
 have hm1:(max i 0).tmod (hs.length:Int)<hs.length:=Int.tmod_lt_of_pos _ (by omega)
 have hn:nth (bW hs) ((max i 0).tmod (hs.length:Int)).toNat=[gK (hs[VQ i hs.length]?.getD [])]:=abM (by omega)
 simp only [e7,e0,hn,go_sem]
 refine ⟨by omega,⟨hm0,hm1⟩,?_⟩
 generalize hs[VQ i hs.length]?.getD []=b
 have hF:=abL b
 cases hp:parse b with
 |none=>
  rw [Ng hp] at hF
  rw [ak0 hp]
  refine aQ hF rfl rfl ?_;simp only [Hd.enc,b80,go_sem]
  exact Fin.bI _ rfl rfl rfl rfl
 |some x=>
  rw [abK hp] at hF
  rw [ak1 hp]
  have ho:=abE hp
  have hl:=ak2 hp
  obtain ⟨id,gen,route,hint⟩:=x
  obtain ⟨⟨a1,a2⟩,⟨a3,a4⟩,⟨a5,a6⟩,⟨a7,a8⟩⟩:=ho
  simp only at a1 a2 a3 a4 a5 a6 a7 a8
  have w1:IntKind.i64.wrap (gen+1)=gen+1:=bE (by omega)
  have w2:IntKind.i64.wrap (gen - 1)=gen - 1:=bE (by omega)
  have w3:IntKind.i64.wrap (route+1)=route+1:=bE (by omega)
  refine aQ hF rfl rfl ?_
  simp only [Hd.enc,go_sem]
  have hE:∀ h:Hd,encR h=if h.ok then .aF [gK (wM h),I 0] else .aF [Nl,I 1]:=fun _=>rfl
  by_cases v2:v=2
  ·have e2:(v==2)=true:=by simp [v2]
   rw [if_pos (Or.inl v2)]
   simp only [e2,w1,Dp,v2,go_sem]
   have hG:=Dm ⟨id,gen+1,route,hint⟩
   unfold Dn
   rw [hE] at hG
   by_cases hk:Hd.ok ⟨id,gen+1,route,hint⟩
   ·rw [if_pos hk] at hG ⊢
    refine aQ hG rfl rfl ?_;simp only [go_sem]
    exact Fin.bI _ rfl rfl rfl rfl
   ·rw [if_neg hk] at hG ⊢
    refine aQ hG rfl rfl ?_;simp only [b10,go_sem]
    exact Fin.bI _ rfl rfl rfl rfl
  have e2:(v==2)=false:=by simp [v2]
  by_cases v3:v=3
  ·have e3:(v==3)=true:=by simp [v3]
   rw [if_pos (Or.inr (Or.inl v3))]
   simp only [e2,e3,w2,Dp,v3,go_sem]
   have hG:=Dm ⟨id,gen - 1,route,hint⟩
   unfold Dn
   rw [hE] at hG
   by_cases hk:Hd.ok ⟨id,gen - 1,route,hint⟩
   ·rw [if_pos hk] at hG ⊢
    refine aQ hG rfl rfl ?_;simp only [go_sem]
    exact Fin.bI _ rfl rfl rfl rfl
   ·rw [if_neg hk] at hG ⊢
    refine aQ hG rfl rfl ?_;simp only [b10,go_sem]
    exact Fin.bI _ rfl rfl rfl rfl
  have e3:(v==3)=false:=by simp [v3]
  by_cases v4:v=4
  ·have e4:(v==4)=true:=by simp [v4]
   rw [if_pos (Or.inr (Or.inr v4))]
   simp only [e2,e3,e4,w3,Dp,v4,go_sem]
   have hG:=Dm ⟨id,gen,(route+1).tmod 65536,hint⟩
   unfold Dn
   rw [hE] at hG
   refine ⟨by decide,?_⟩
   by_cases hk:Hd.ok ⟨id,gen,(route+1).tmod 65536,hint⟩
   ·rw [if_pos hk] at hG ⊢
    refine aQ hG rfl rfl ?_;simp only [go_sem]
    exact Fin.bI _ rfl rfl rfl rfl
   ·rw [if_neg hk] at hG ⊢
    refine aQ hG rfl rfl ?_;simp only [b10,go_sem]
    exact Fin.bI _ rfl rfl rfl rfl
  have e4:(v==4)=false:=by simp [v4]
  rw [if_neg (by simp only [v2,v3,v4,or_self,not_false_eq_true])]
  by_cases v5:v=5
  ·have e5:(v==5)=true:=by simp [v5]
   rw [if_pos v5]
   simp only [e2,e3,e4,e5,go_sem]
   have el:IntKind.i64.wrap ((b.length:Int) - 1)=((15:Nat):Int):=by rw [hl];decide
   have hm:b.length<=maxLen:=by rw [hl];decide
   have hn5:nth (dL b) 15=[.v (.int .u8 (oF b 15:Nat))]:=abG (by omega)
   have hx:bits .xor .u8 ((oF b 15:Nat):Int) 1=((oF b 15 ^^^ 1:Nat):Int):=abB .u8 8 (by decide) wraps_u8 (oF b 15) 1 (VO b 15) (by decide)
   simp only [el,Int.toNat_natCast,List.drop_zero,abH,hn5,hx,List.getElem?_cons_zero,Option.getD_some,List.set_cons_zero,ak6 hl,go_sem]
   have hfl:(flip b).length=16:=by rw [ak5,hl]
   refine ⟨⟨by omega,hm⟩,by omega,by omega,by omega,by omega,Fin.aD _ rfl rfl ?_⟩
   simp [ay,rv,au,get,mU,hfl,hl]
   exact (yO hfl).symm
  ·have e5:(v==5)=false:=by simp [v5]
   rw [if_neg v5]
   simp only [e2,e3,e4,e5,go_sem]
   exact Fin.bI _ rfl rfl rfl rfl
end Go.Eng
namespace Go.Eng
open Go
def Due.before (a b:Due):Bool:=decide (a.dl<b.dl)||(a.dl==b.dl&&decide (a.id<b.id))
def Due.sound (d:Due):Bool:=decide (0<=d.dl)&&(decide (d.dl<=1073741824)&&(decide (1<=d.id)&&decide (d.id<=1073741824)))
def gD (h:List Due) (i:Nat):Due:=h[i]?.getD Due.z
def oG (id:Int):List Due->Nat->Int
 |[],_=> -1
 |d::r,i=>if d.id==id then i else oG id r (i+1)
def Nh (h:List Due):List Due->Nat->Int
 |[],_=>0
 |d::r,i=>if d.before (gD h ((i - 1) / 2)) then 11 else Nh h r (i+1)
def Dr (h:List Due):List Due->Nat->Int
 |[],_=>Nh h (h.drop 1) 1
 |d::r,i=>if oG d.id h 0 !=i then 10 else Dr h r (i+1)
def Ba (h:List Due):List Due->Int
 |[]=>Dr h h 0
 |d::r=>if d.sound then Ba h r else 1
def iK (h:List Due):Int:=if (12:Int)<h.length then 2 else Ba h h
def mX (h:List Due) (i k:Nat):List Due:=(h.set i (gD h k)).set k (gD h i)
def kW (h:List Due):Nat->Nat->List Due
 |0,_=>h
 |f+1,i=>if 0<i/\(gD h i).before (gD h ((i - 1) / 2))=true then kW (mX h i ((i - 1) / 2)) f ((i - 1) / 2) else h
def uO (h:List Due) (i:Nat):Nat:=if 2*i+2<h.length/\(gD h (2*i+2)).before (gD h (2*i+1))=true then 2*i+2 else 2*i+1
def qV (h:List Due):Nat->Nat->List Due
 |0,_=>h
 |f+1,i=>if 2*i+1<h.length then (if (gD h (uO h i)).before (gD h i) then qV (mX h i (uO h i)) f (uO h i) else h) else h
def wN (h:List Due) (d:Due):List Due×Int:=
 if iK h !=0 then ([],iK h) else if !d.sound then ([],1) else if (h.length:Int)==12 then ([],3) else if decide (0<=oG d.id h 0) then ([],10)
 else (kW (h++[d]) h.length h.length,0)
def qg (h:List Due) (i:Nat):List Due:=
 let n:=h.length - 1
 let x:=h.take n
 if i=n then x else
  let y:=x.set i (gD h n)
  if 0<i/\(gD y i).before (gD y ((i - 1) / 2))=true then kW y i i else qV y n i
def uP (h:List Due) (id:Int):List Due×Int:=
 if iK h !=0 then ([],iK h) else if oG id h 0<0 then ([],4) else (qg h (oG id h 0).toNat,0)
def kC (now:Int):Nat->List Due->List Int
 |0,_=>[]
 |f+1,h=>if iK h==0/\0<h.length/\(gD h 0).dl<=now then (gD h 0).id::kC now f (qg h 0) else []
def gL (l:List Lease) (i:Nat):Lease:=l[i]?.getD Lease.z
def wO (id:Int):List Lease->Nat->Int
 |[],_=> -1
 |x::r,i=>if x.msg.id==id then i else wO id r (i+1)
def Table.find (t:Table) (id:Int):Int:=wO id t.l 0
def Bb (t:Table):List Due->Int
 |[]=>0
 |d::r=>if t.find d.id<0 then 7 else if (gL t.l (t.find d.id).toNat).dl !=d.dl then 7 else Bb t r
def uQ (t:Table):List Lease->Nat->Int
 |[],_=>if iK t.heap !=0 then iK t.heap else if t.heap.length≠t.l.length then 7 else Bb t t.heap
 |x::r,i=>if x.msg.val !=0 then x.msg.val else if x.msg.gen==0 then 7 else if decide (x.dl<0)||decide (1073741824<x.dl) then 1
  else if 0<i/\x.msg.id<=(gL t.l (i - 1)).msg.id then 11 else uQ t r (i+1)
def Table.val (t:Table):Int:=if (12:Int)<t.l.length then 2 else uQ t t.l 0
def wP (id:Int):List Lease->Nat->Nat
 |[],i=>i
 |x::r,i=>if x.msg.id<id then wP id r (i+1) else i
def Table.grant (t:Table) (m:ai) (dl:Int):Table×Int:=
 if t.val !=0 then (Table.z,t.val) else if m.val !=0 then (Table.z,m.val) else if m.gen==0 then (Table.z,7)
 else if decide (dl<0)||decide (1073741824<dl) then (Table.z,1) else if (t.l.length:Int)==12 then (Table.z,3) else if decide (0<=t.find m.id) then (Table.z,10)
 else (⟨t.l.take (wP m.id t.l 0)++⟨m,dl⟩::t.l.drop (wP m.id t.l 0),(wN t.heap ⟨dl,m.id⟩).1⟩,0)
def Table.qh (t:Table) (id:Int):Lease×Bool:=if t.val !=0\/t.find id<0 then (Lease.z,false) else (gL t.l (t.find id).toNat,true)
def Table.release (t:Table) (id:Int):Table×ai×Int:=
 if t.val !=0 then (Table.z,ai.z,t.val) else if t.find id<0 then (Table.z,ai.z,4)
 else (⟨t.l.eraseIdx (t.find id).toNat,(uP t.heap id).1⟩,(gL t.l (t.find id).toNat).msg,0)
def Table.extend (t:Table) (id dl:Int):Table×Int:=
 if t.val !=0 then (Table.z,t.val) else if t.find id<0 then (Table.z,4) else if decide (dl<0)||decide (1073741824<dl) then (Table.z,1)
 else (⟨t.l.set (t.find id).toNat ⟨(gL t.l (t.find id).toNat).msg,dl⟩,(wN (uP t.heap id).1 ⟨dl,id⟩).1⟩,0)
def wQ (t:Table) (epoch:Int):List Int->List Int
 |[]=>[]
 |id::r=>if (t.qh id).1.msg.epoch<epoch then wQ t epoch r else id::wQ t epoch r
def Table.wR (t:Table) (now epoch:Int):List Int:=if t.val !=0 then [] else wQ t epoch (kC now 13 t.heap)
def Ring.val (r:Ring):Int:=eZ r.cells r.head r.size
def Ring.list (r:Ring):List ai:=yL r.cells r.head r.size
def Ring.mk' (n h:Nat) (l:List ai):Ring:=⟨eO n h l,h,l.length⟩
def Ring.room (r:Ring) (m:ai):Int:=kz r.cells r.head r.size m
def Ring.new (k:Int):Ring×Int:=if k<1 then (Ring.z,1) else if 12<k then (Ring.z,1) else (Ring.mk' k.toNat 0 [],0)
def Ring.uR (r:Ring) (m:ai):Ring×Int:=
 if r.room m≠0 then (Ring.z,r.room m) else (Ring.mk' r.cells.length r.head.toNat (fE r.cells r.head.toNat r.size.toNat++[m]),0)
def Ring.Bc (r:Ring) (m:ai):Ring×Int:=
 if r.room m≠0 then (Ring.z,r.room m) else (Ring.mk' r.cells.length ((r.head.toNat+(r.cells.length - 1)) % r.cells.length) (m::fE r.cells r.head.toNat r.size.toNat),0)
def Ring.remove (r:Ring) (id:Int):Ring×ai×Int:=
 if r.val≠0 then (Ring.z,ai.z,r.val) else if fD r.list id<0 then (Ring.z,ai.z,4)
 else (Ring.mk' r.cells.length r.head.toNat (r.list.eraseIdx (fD r.list id).toNat),gt r.list (fD r.list id).toNat,0)
def Ring.iF (r:Ring) (k:Int):Ring×List ai×Int:=
 if r.val≠0 then (Ring.z,[],r.val) else if k<0\/r.size<k then (Ring.z,[],1)
 else (Ring.mk' r.cells.length r.head.toNat (r.list.take (r.list.length - k.toNat)),r.list.drop (r.list.length - k.toNat),0)
def ai.gZ (m:ai) (epoch:Int):Bool:=decide (m.epoch<epoch)
def ai.spent (m:ai) (limit:Int):Bool:=decide (limit<=m.count)
def ai.Dt (m:ai) (epoch limit:Int):Bool:= !m.gZ epoch&&(!m.spent limit&&decide (m.gen<65536))
def ai.jU (m:ai):ai×Int:=if m.val≠0 then (ai.z,m.val) else if m.gen==65536 then (ai.z,6) else if m.count==8 then (ai.z,7)
 else ({m with count:=m.count+1,gen:=m.gen+1},0)
def ai.new (id route epoch now:Int) (body:ByteArray):ai×Int:=
 let m:ai:=⟨id,route,epoch,0,0,now,body⟩
 if m.val≠0 then (ai.z,m.val) else (m,0)
def ai.gU (m:ai):ai:={m with count:=0}
def ai.qi (m:ai) (low high:Int):ai:={m with route:=Df m.route low high}
def yR (low high:Int):Bool:=decide (0<=low)&&(decide (low<=high)&&decide (high<65536))
def ak.new (cap low high:Int):ak×Int:=if (Ring.new cap).2≠0 then (ak.z,(Ring.new cap).2) else if !yR low high then (ak.z,1)
 else (⟨true,low,high,(Ring.new cap).1,Table.z⟩,0)
def ak.free (cap:Int):ak×Int:=if (Ring.new cap).2≠0 then (ak.z,(Ring.new cap).2) else (⟨false,0,0,(Ring.new cap).1,Table.z⟩,0)
def ak.eF (s:ak):List ai:=s.aR.l.map Lease.msg
def ak.all (s:ak):List ai:=s.ready.list++s.eF
def Du (l:List ai):List ai->Nat->Int
 |[],_=>0
 |m::r,i=>if fD l m.id !=i then 10 else Du l r (i+1)
def Dv (l:List ai) (low high:Int):List ai->Int
 |[]=>Du l l 0
 |m::r=>if decide (m.route<low)||decide (high<m.route) then 12 else Dv l low high r
def ak.cnt (s:ak):Int:=s.ready.size+s.aR.l.length
def ak.val (s:ak):Int:=if s.ready.val≠0 then s.ready.val else if s.aR.val≠0 then s.aR.val
 else if !s.live then (if s.low !=0||(s.high !=0||decide (0<s.cnt)) then 7 else 0)
 else if !yR s.low s.high then 1 else if (s.ready.cells.length:Int)<s.cnt then 3 else Dv s.all s.low s.high s.all
def ak.lv (s:ak):Int:=if s.val≠0 then s.val else if !s.live then 7 else 0
def jy (n:Int):Bool:=decide (0<=n)&&decide (n<=65536)
def kD (n:Int):Bool:=decide (1<=n)&&decide (n<=8)
def oH (n:Int):Bool:=decide (0<=n)&&decide (n<=1073741824)
def qj (n:Int):Bool:=decide (0<=n)&&decide (n<=1000)
def ak.stored (s:ak):Int:=if s.lv≠0 then 0 else s.cnt
def ak.owns (s:ak) (route:Int):Bool:=s.lv==0&&(decide (s.low<=route)&&decide (route<=s.high))
def mY {α:Type} (p:α->Bool) (l:List α):Int:=(l.filter p).length
def ak.counts (s:ak) (epoch limit:Int):Int×Int:=if s.lv≠0\/jy epoch=false\/kD limit=false then (0,0)
 else (mY (fun m:ai=> !m.gZ epoch&& !m.spent limit) s.ready.list,mY (fun m:ai=> !m.gZ epoch) s.eF)
def ak.put (s:ak) (m:ai):ak×Int:=if s.lv≠0 then (ak.z,s.lv) else if m.val≠0 then (ak.z,m.val)
 else if decide (m.route<s.low)||decide (s.high<m.route) then (ak.z,12) else if s.stored==s.ready.cells.length then (ak.z,3)
 else if decide (0<=fD s.all m.id) then (ak.z,10) else ({s with ready:=(s.ready.uR m).1},0)
def oI (max dl epoch limit:Int):List ai->ak->List Lease->ak×List Lease
 |[],s,out=>(s,out)
 |m::r,s,out=>if (out.length:Int)<max then
  (if m.Dt epoch limit then oI max dl epoch limit r {s with ready:=(s.ready.remove m.jU.1.id).1,aR:=(s.aR.grant m.jU.1 dl).1} (out++[⟨m.jU.1,dl⟩])
   else oI max dl epoch limit r s out) else (s,out)
def ak.take (s:ak) (max now bB epoch limit:Int):ak×List Lease×Int:=if s.lv≠0 then (ak.z,[],s.lv)
 else if jy epoch=false\/kD limit=false\/oH now=false\/qj bB=false\/max<1\/6<max then (ak.z,[],1)
 else if 1073741824<now+bB then (ak.z,[],6)
 else ((oI max (now+bB) epoch limit s.ready.list s []).1,(oI max (now+bB) epoch limit s.ready.list s []).2,0)
def ak.holds (s:ak) (h:Hd) (now epoch:Int):Bool:=if s.lv≠0\/jy epoch=false\/oH now=false then false
 else (s.aR.qh h.id).2&&((s.aR.qh h.id).1.msg.gen==h.gen&&((s.aR.qh h.id).1.msg.route==h.route&&(!(s.aR.qh h.id).1.msg.gZ epoch&&decide (now<(s.aR.qh h.id).1.dl))))
def ak.held (s:ak) (h:Hd) (now epoch:Int) (good:Bool):Int:=if s.lv≠0 then s.lv else if jy epoch=false\/oH now=false\/good=false then 1
 else if !s.holds h now epoch then 5 else 0
def ak.yS (s:ak) (h:Hd) (now epoch:Int):ak×Int:=if s.held h now epoch true≠0 then (ak.z,s.held h now epoch true)
 else ({s with aR:=(s.aR.release h.id).1},0)
def ak.yT (s:ak) (h:Hd) (now epoch limit:Int):ak×Int:=if s.held h now epoch (kD limit)≠0 then (ak.z,s.held h now epoch (kD limit))
 else ({s with aR:=(s.aR.release h.id).1,ready:=if (s.aR.release h.id).2.1.spent limit then (s.ready.uR (s.aR.release h.id).2.1).1 else (s.ready.Bc (s.aR.release h.id).2.1).1},0)
def ak.change (s:ak) (h:Hd) (now epoch bB:Int):ak×Int:=if s.held h now epoch (qj bB)≠0 then (ak.z,s.held h now epoch (qj bB))
 else if 1073741824<now+bB then (ak.z,6) else ({s with aR:=(s.aR.extend h.id (now+bB)).1},0)
def yU:List Int->ak->ak
 |[],s=>s
 |id::r,s=>yU r {s with aR:=(s.aR.release id).1,ready:=(s.ready.uR (s.aR.release id).2.1).1}
def ak.expire (s:ak) (now epoch limit:Int):ak×List Int×Int:=if s.lv≠0 then (ak.z,[],s.lv)
 else if jy epoch=false\/kD limit=false\/oH now=false then (ak.z,[],1)
 else (yU (s.aR.wR now epoch) s,s.aR.wR now epoch,0)
def uS (epoch:Int):List ai->ak->Int->ak×Int
 |[],s,n=>(s,n)
 |m::r,s,n=>if m.gZ epoch then uS epoch r {s with ready:=(s.ready.remove m.id).1} (n+1) else uS epoch r s n
def uU (epoch:Int):List ai->ak->Int->ak×Int
 |[],s,n=>(s,n)
 |m::r,s,n=>if m.gZ epoch then uU epoch r {s with aR:=(s.aR.release m.id).1} (n+1) else uU epoch r s n
def ak.clean (s:ak) (epoch:Int):ak×Int×Int:=if s.lv≠0 then (ak.z,0,s.lv) else if jy epoch=false then (ak.z,0,1)
 else
  let x:=uS epoch s.ready.list s 0
  let y:=uU epoch s.eF x.1 x.2
  (y.1,y.2,0)
def ak.iF (s:ak) (k:Int):ak×List ai×Int:=if s.lv≠0 then (ak.z,[],s.lv) else if (s.ready.iF k).2.2≠0 then (ak.z,[],(s.ready.iF k).2.2)
 else ({s with ready:=(s.ready.iF k).1},(s.ready.iF k).2.1,0)
def yV (low high:Int):List ai->ak->ak×Int
 |[],s=>(s,0)
 |m::r,s=>if (s.put (m.qi s.low s.high)).2≠0 then (ak.z,(s.put (m.qi s.low s.high)).2) else yV low high r (s.put (m.qi s.low s.high)).1
def ak.sU (s:ak) (l:List ai):ak×Int:=if s.lv≠0 then (ak.z,s.lv) else if (s.ready.cells.length:Int) - s.stored<l.length then (ak.z,3)
 else yV s.low s.high l s
def mZ (k epoch limit:Int):List ai->ak->List ai->ak×List ai
 |[],s,out=>(s,out)
 |m::r,s,out=>if (out.length:Int)<k then
  (if m.spent limit&& !m.gZ epoch then mZ k epoch limit r {s with ready:=(s.ready.remove m.id).1} (out++[m]) else mZ k epoch limit r s out) else (s,out)
def ak.qW (s:ak) (k epoch limit:Int):ak×List ai×Int:=if s.lv≠0 then (ak.z,[],s.lv)
 else if jy epoch=false\/kD limit=false\/k<0 then (ak.z,[],1)
 else ((mZ k epoch limit s.ready.list s []).1,(mZ k epoch limit s.ready.list s []).2,0)
def qX:List ai->ak->ak
 |[],s=>s
 |m::r,s=>if s.low<=m.route/\m.route<=s.high then qX r {s with ready:=(s.ready.uR m).1} else qX r s
def wS:List Lease->ak->ak
 |[],s=>s
 |x::r,s=>if s.low<=x.msg.route/\x.msg.route<=s.high then wS r {s with aR:=(s.aR.grant x.msg x.dl).1} else wS r s
def ak.fill (s:ak) (ready:List ai) (aR:List Lease):ak:=wS aR (qX ready s)
def ak.divide (s:ak) (mid:Int):ak×ak×Int:=if s.lv≠0 then (ak.z,ak.z,s.lv) else if decide (mid<s.low)||decide (s.high<=mid) then (ak.z,ak.z,1)
 else ((ak.new s.ready.cells.length s.low mid).1.fill s.ready.list s.aR.l,(ak.new s.ready.cells.length (mid+1) s.high).1.fill s.ready.list s.aR.l,0)
def sV (l:List ai):List ai->Bool
 |[]=>false
 |m::r=>decide (0<=fD l m.id)||sV l r
def ak.wT (a b:ak):ak×Int:=if a.val≠0 then (ak.z,a.val) else if b.val≠0 then (ak.z,b.val)
 else if !a.live||(!b.live||((a.high+1 !=b.low)&&(b.high+1 !=a.low))) then (ak.z,7)
 else if (a.ready.cells.length:Int)<a.stored+b.stored then (ak.z,3) else if sV a.all b.all then (ak.z,10)
 else (ak.fill {a with low:=min a.low b.low,high:=max a.high b.high} b.ready.list b.aR.l,0)
def gS (l:List Span) (i:Nat):Span:=l[i]?.getD Span.z
def wU (slot:Int):List Span->Nat->Int
 |[],_=> -1
 |x::r,i=>if x.eT==slot then i else wU slot r (i+1)
def Dir.idx (d:Dir) (slot:Int):Int:=wU slot d.l 0
def Dir.new (slots live:Int):Dir×Int:=if decide (live<1)||(decide (slots<live)||decide (6<slots)) then (Dir.z,1)
 else (⟨1,(List.range live.toNat).map fun i:Nat=>⟨((i:Int)*65536).tdiv live,(((i:Int)+1)*65536).tdiv live - 1,(i:Int)⟩,List.replicate slots.toNat (-1)⟩,0)
def gI (l:List Int) (i:Nat):Int:=l[i]?.getD 0
def aM (f:List Int):Nat->Int->Int
 |0,at_=>at_
 |k+1,at_=>if 0<=at_ then aM f k (gI f at_.toNat) else at_
def sW (d:Dir):List Int->Nat->Int
 |[],_=>0
 |_::r,i=>if 0<=aM d.aM d.aM.length i then 7 else sW d r (i+1)
def uV (d:Dir):List Int->Nat->Int
 |[],_=>sW d d.aM 0
 |x::r,i=>if decide (x< -1)||(decide ((d.aM.length:Int)<=x)||(decide (0<=d.idx i)&&x != -1)) then 7 else uV d r (i+1)
def wV (d:Dir):List Span->Nat->Int
 |[],_=>uV d d.aM 0
 |x::r,i=>if d.idx x.eT !=i then 10 else wV d r (i+1)
def uW (d:Dir):List Span->Int
 |[]=>wV d d.l 0
 |x::r=>if decide (x.eT<0)||decide ((d.aM.length:Int)<=x.eT) then 4 else uW d r
def lH (d:Dir):List Span->Int->Int
 |[],next=>if next !=65536 then 7 else uW d d.l
 |x::r,next=>if x.low !=next||(decide (x.high<x.low)||decide (65536<=x.high)) then 7 else lH d r (x.high+1)
def Dir.val (d:Dir):Int:=if decide (d.version<1)||(decide (1099511627776<d.version)||(decide ((d.aM.length:Int)<1)||decide (6<(d.aM.length:Int)))) then 1 else lH d d.l 0
def yX (route:Int):List Span->Int
 |[]=> -1
 |x::r=>if x.low<=route/\route<=x.high then x.eT else yX route r
def Dir.owner (d:Dir) (route:Int):Int:=if d.val≠0 then -1 else yX route d.l
def Dir.span (d:Dir) (slot:Int):Span×Bool:=if d.val≠0\/d.idx slot<0 then (Span.z,false) else (gS d.l (d.idx slot).toNat,true)
def wW (d:Dir):Nat->Int->Int
 |0,slot=>slot
 |k+1,slot=>if 0<=slot/\d.idx slot<0 then wW d k (gI d.aM slot.toNat) else slot
def Dir.home (d:Dir) (slot:Int):Int:=if d.val≠0\/slot<0\/(d.aM.length:Int)<=slot then -1 else wW d 7 slot
def Dir.apply (d:Dir) (e:bL):Dir×Int:=if d.val≠0 then (Dir.z,d.val) else if d.version==1099511627776 then (Dir.z,6)
 else if e.kind !=1&&e.kind !=2 then (Dir.z,9)
 else if decide (e.bq<0)||(decide ((d.aM.length:Int)<=e.bq)||(decide (e.to<0)||decide ((d.aM.length:Int)<=e.to))) then (Dir.z,4)
 else
  let i:=d.idx e.bq
  let k:=d.idx e.to
  if e.kind==1 then
   (if decide (i<0)||decide (0<=k) then (Dir.z,7) else
    let s:=gS d.l i.toNat
    if decide (e.mid<s.low)||decide (s.high<=e.mid) then (Dir.z,1)
    else (⟨d.version+1,d.l.take i.toNat++⟨s.low,e.mid,e.bq⟩::⟨e.mid+1,s.high,e.to⟩::d.l.drop (i.toNat+1),d.aM.set e.to.toNat (-1)⟩,0))
  else if decide (i<0)||(decide (k<0)||(i - k !=1&&k - i !=1)) then (Dir.z,7)
  else
   let f:=(min i k).toNat
   (⟨d.version+1,d.l.take f++⟨(gS d.l f).low,(gS d.l (f+1)).high,e.to⟩::d.l.drop (f+2),d.aM.set e.bq.toNat e.to⟩,0)
def aJ.begin (s:aJ):aJ×Int:=if decide (s.seq<0)||decide (1099511627776<s.seq) then (aJ.z,1) else if s.seq.tmod 2==1 then (aJ.z,7)
 else if 1099511627774<s.seq then (aJ.z,6) else ({s with seq:=s.seq+1},0)
def aJ.done (s:aJ) (x:ak) (epoch limit:Int):aJ×Int:=if decide (s.seq<0)||decide (1099511627776<s.seq) then (aJ.z,1) else if s.seq.tmod 2==0 then (aJ.z,7)
 else if x.val≠0 then (aJ.z,x.val) else if decide (epoch<0)||(decide (65536<epoch)||(decide (limit<1)||decide (8<limit))) then (aJ.z,1)
 else (⟨s.seq+1,epoch,(x.counts epoch limit).1,(x.counts epoch limit).2⟩,0)
def Bd (l:List aJ):Bool:=l.all fun s=>s.seq.tmod 2==0
def cN (n:Int):Bool:=decide (0<=n)&&decide (n<=1099511627776)
def tq (epoch:Int):List aJ->Int->Int->Int×Int
 |[],r,l=>(r,l)
 |s::t,r,l=>if s.epoch==epoch&&(cN s.seq&&(cN s.ready&&cN s.eF)) then tq epoch t (IntKind.i64.wrap (r+s.ready)) (IntKind.i64.wrap (l+s.eF)) else tq epoch t r l
def aJ.same (a b:aJ):Bool:=(a.seq==b.seq)&&((a.epoch==b.epoch)&&((a.ready==b.ready)&&(a.eF==b.eF)))
def uX:List aJ->List aJ->Bool
 |[],[]=>true
 |a::l,b::m=>a.same b&&uX l m
 |_,_=>false
def dP (n low high:Int):Bool:=decide (low<=n)&&decide (n<=high)
def Setup.good (s:Setup):Bool:=dP s.slots 1 6&&(dP s.live 1 s.slots&&(dP s.capacity 1 12&&(dP s.dead 1 24&&(dP s.limit 1 8&&(dP s.clock 0 1073741824&&(dP s.fB 1 1073741824&&dP s.epoch 0 65536))))))
def Ni (s:Setup) (i:Nat):Slot:=if (i:Int)<s.live then ⟨0,(ak.new s.capacity (gS (Dir.new s.slots s.live).1.l i).low (gS (Dir.new s.slots s.live).1.l i).high).1⟩ else ⟨0,(ak.free s.capacity).1⟩
def aj.new (s:Setup):aj×Int:=if !s.good then (aj.z,1)
 else (⟨(List.range s.slots.toNat).map (Ni s),List.replicate s.slots.toNat ⟨0,s.epoch,0,0⟩,⟨0,⟨s.dead,[]⟩⟩,(Dir.new s.slots s.live).1,s.epoch,s.clock,s.fB⟩,0)
def aj.slot (a:aj) (i:Int):Bool:=decide (0<=i)&&decide (i<(a.slots.length:Int))
def wX (i:Int):Bool:=decide (1<=i)&&decide (i<=200)
def gX (l:List Slot) (i:Nat):Slot:=l[i]?.getD Slot.z
def iZ (l:List aJ) (i:Nat):aJ:=l[i]?.getD aJ.z
def aj.owner (a:aj) (cell:Int):Int:=if cell==a.slots.length then a.dead.owner else (gX a.slots cell.toNat).owner
def aj.own (a:aj) (cell who:Int):aj:=if cell==a.slots.length then {a with dead:={a.dead with owner:=who}}
 else {a with slots:=a.slots.set cell.toNat {gX a.slots cell.toNat with owner:=who}}
def aj.tryLock (a:aj) (cell who:Int):aj×Bool×Int:=if decide (cell<0)||(decide ((a.slots.length:Int)<cell)|| !wX who) then (aj.z,false,1)
 else if a.owner cell !=0 then (a,false,0) else (a.own cell who,true,0)
def aj.unlock (a:aj) (cell who:Int):aj×Int:=if decide (cell<0)||(decide ((a.slots.length:Int)<cell)|| !wX who) then (aj.z,1)
 else if a.owner cell !=who then (aj.z,13) else (a.own cell 0,0)
def aj.kE (a:aj) (i:Int):ak×Int:=if !a.slot i then (ak.z,1) else ((gX a.slots i.toNat).eT,0)
def aj.ql (a:aj) (i:Int):aJ×Int:=if !a.slot i then (aJ.z,1) else (iZ a.bU i.toNat,0)
def aj.storable (a:aj) (i who:Int):Int:=if !a.slot i|| !wX who then 1 else if (gX a.slots i.toNat).owner !=who then 13 else 0
def aj.lW (a:aj) (i who:Int) (s:ak):aj×Int:=if a.storable i who≠0 then (aj.z,a.storable i who) else if s.val≠0 then (aj.z,s.val)
 else if s.ready.cells.length≠(gX a.slots i.toNat).eT.ready.cells.length then (aj.z,1)
 else ({a with slots:=a.slots.set i.toNat {gX a.slots i.toNat with eT:=s}},0)
def aj.jA (a:aj) (i who:Int) (s:aJ):aj×Int:=if a.storable i who≠0 then (aj.z,a.storable i who)
 else if !(dP s.seq 0 1099511627776)||(!(dP s.epoch 0 1099511627776)||(!(dP s.ready 0 1099511627776)|| !(dP s.eF 0 1099511627776))) then (aj.z,1)
 else ({a with bU:=a.bU.set i.toNat s},0)
def Dead.val (d:Dead):Int:=iA d.cap d.l
def aj.lX (a:aj) (who:Int) (d:Dead):aj×Int:=if !wX who then (aj.z,1) else if a.dead.owner !=who then (aj.z,13) else if d.val≠0 then (aj.z,d.val)
 else if d.cap !=a.dead.dead.cap then (aj.z,1) else ({a with dead:={a.dead with dead:=d}},0)
def aj.oJ (a:aj) (version:Int) (d:Dir):aj×Bool×Int:=if d.val≠0 then (aj.z,false,d.val) else if d.aM.length≠a.slots.length then (aj.z,false,1)
 else if a.dir.version !=version then (a,false,0) else ({a with dir:=d},true,0)
def aj.load (a:aj) (word:Int):Int×Int:=if word==1 then (a.epoch,0) else if word==2 then (a.clock,0) else if word==3 then (a.fB,0) else (0,9)
def aj.lY (a:aj) (word old next:Int):aj×Bool×Int:=if word !=1&&word !=3 then (aj.z,false,9)
 else if (word==1&& !dP next 0 65536)||(word==3&& !dP next 1 1073741824) then (aj.z,false,1)
 else if (a.load word).1 !=old then (a,false,0) else if word==1 then ({a with epoch:=next},true,0) else ({a with fB:=next},true,0)
def aj.tick (a:aj) (dM:Int):aj×Int:=if !dP dM 0 1099511627776 then (aj.z,1) else if 1073741824<IntKind.i64.wrap (a.clock+dM) then (aj.z,6) else ({a with clock:=IntKind.i64.wrap (a.clock+dM)},0)
def lZ:List Int->Int->Bool
 |[],_=>true
 |c::r,p=>(dP c 0 6&&decide (p<c))&&lZ r c
def bf.new (cells:List Int):bf×Int:=if (cells.length:Int)==0||decide (3<(cells.length:Int)) then (bf.z,2) else if lZ cells (-1) then (⟨cells,0,0,0,0⟩,0) else (bf.z,1)
def bf.step (a:aj) (l:bf) (task:Int):aj×bf×Int:=
 if l.phase==0 then
  (let x:=a.tryLock (gI l.cells l.got.toNat) task
   if x.2.2≠0 then (aj.z,bf.z,x.2.2)
   else if x.2.1 then (x.1,{l with got:=l.got+1,phase:=if l.got+1==l.cells.length then 3 else l.phase},0)
   else if 0<l.got then (x.1,{l with phase:=1},0) else (x.1,l,0))
 else if l.phase==1||l.phase==4 then
  (let x:=a.unlock (gI l.cells (l.got - 1).toNat) task
   if x.2≠0 then (aj.z,bf.z,x.2)
   else if 0<l.got - 1 then (x.1,{l with got:=l.got - 1},0)
   else if l.phase==4 then (x.1,{l with got:=l.got - 1,phase:=5},0)
   else (x.1,{l with got:=l.got - 1,tries:=IntKind.i64.wrap (l.tries+1),wait:=min (IntKind.i64.wrap (l.tries+1)) 3,phase:=2},0))
 else if l.phase==2 then (a,{l with wait:=IntKind.i64.wrap (l.wait - 1),phase:=if IntKind.i64.wrap (l.wait - 1)==0 then 0 else 2},0)
 else (aj.z,bf.z,7)
def bf.free (l:bf):bf×Int:=if l.phase !=3 then (bf.z,7) else ({l with phase:=4},0)
def cB.step (a:aj) (s:cB) (n:Int):cB×Int:=
 if s.phase==0 then ({s with epoch:=a.epoch,phase:=1},0) else if s.phase==1 then ({s with clock:=a.clock,stamp:=n,phase:=2},0)
 else if s.phase==2 then (if a.epoch==s.epoch then ({s with phase:=3},0) else ({s with epoch:=a.epoch,phase:=1},0))
 else if s.phase==3 then (cB.z,7) else (cB.z,1)
end Go.Eng
