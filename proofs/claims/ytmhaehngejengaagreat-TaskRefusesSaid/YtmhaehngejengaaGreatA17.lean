/-
  Part of a proof: lemmas and definitions of this work.
  No condition.
-/
import Derived.Test.YtmhaehngejengaaGreatA12
import Derived.Test.YtmhaehngejengaaGreatA16
set_option linter.all false
set_option maxRecDepth 100000
set_option maxHeartbeats 8000000
namespace Go.Eng
open Go Go.Proofs
attribute [local go_sem] Int.cast_ofNat_Int Int.reduceBEq Int.reduceLT Int.reduceLE Int.reduceSub Int.reduceAdd Int.reduceNeg Int.reduceEq Int.reduceToNat decide_true decide_false decide_eq_true_eq beq_self_eq_true bne_self_eq_false List.reduceReplicate List.length_set List.length_replicate List.length_cons List.length_nil List.set_cons_zero List.set_cons_succ Int.toNat_natCast
theorem or8 (g x:Nat) (hg:g<2 ^ 48) (hx:x<256):bits .or .i64 (IntKind.i64.wrap ((g:Int)*2 ^ 8)) (x:Int)=((g*256+x:Nat):Int):=by
 have e:((g:Int)*2 ^ 8)=((g*256:Nat):Int):=by simp
 rw [e,bH (by omega)]
 rw [bits_join .i64 63 (by decide) Og 8 _ _ (by omega) (by omega) (by omega) (by omega) (by omega) (by omega)]
 simp
theorem amq (b:List UInt8) (a j:Nat) (hj:j≤6):gN b a j<2 ^ 48:=by
 have h1:=aby b a j
 have h2:256 ^ j≤256 ^ 6:=Nat.pow_le_pow_right (by decide) hj
 have h3:(256:Nat) ^ 6=2 ^ 48:=by decide
 omega
theorem Ol (b:List UInt8) (a s:Nat) (hb:b.length≤1000) (hs:1≤s∧s≤6) (ha:a+s≤b.length):Fn Tryz.prog 271 [iM b,I a,I s] [] (.aF [I (gN b a s:Nat),I 0]) [] []:=by
 refine Fn.aN aiN (by simp) ?_
 unfold SK SC.mk'
 have c1:decide ((s:Int)<1)=false:=by rw [decide_eq_false_iff_not];omega
 have c2:decide (6<(s:Int))=false:=by rw [decide_eq_false_iff_not];omega
 have c3:decide ((a:Int)<0)=false:=by rw [decide_eq_false_iff_not];omega
 have c4:decide ((b.length:Int)<(a:Int))=false:=by rw [decide_eq_false_iff_not];omega
 have c5:IntKind.i64.wrap ((b.length:Int) - (a:Int))=(b.length:Int) - (a:Int):=bH (by omega)
 have c6:decide ((b.length:Int) - (a:Int)<(s:Int))=false:=by rw [decide_eq_false_iff_not];omega
 simp only [c1,c2,c3,c4,c5,c6,go_sem]
 refine go_loop (fun j:{j:Nat // j≤s}=>⟨1000,[(0,iM b),(1,I a),(2,I s),(8,I (gN b a j.1:Nat)),(9,I j.1)],[]⟩) (fun j=>s - j.1) ⟨0,by omega⟩
  (Wk.mk [] [] rfl rfl (by simp only [go_sem]) (by simp only [go_sem]) (by simp only [rv,gN,go_sem]<;>exact ⟨rfl,rfl⟩)) ?_
 intro j B hB
 obtain ⟨j,hj⟩:=j
 simp only [go_sem]
 refine bF (fun h1=> ?_) (fun h1=> ?_)<;>simp only [h1,go_sem]
 ·have e1:j<s:=by simp only [decide_eq_true_eq] at h1;omega
  have e2:IntKind.i64.wrap ((a:Int)+(j:Int))=((a+j:Nat):Int):=by rw [bH (by omega)];omega
  have e3:=WL b (a+j)
  have e4:IntKind.i64.wrap ((qi b (a+j):Nat):Int)=((qi b (a+j):Nat):Int):=bH (by omega)
  have e5:=amq b a j (by omega)
  have e6:gN b a j*256+qi b (a+j)=gN b a (j+1):=rfl
  simp only [Int.toNat_natCast,e2,abB (show a+j<b.length by omega),e4,Nat.reduceLeDiff,Nat.min_eq_left (show 8≤64 by decide),go_sem]
  simp only [or8 _ _ e5 e3,e6,cZ (show j≤100000 by omega),go_sem]
  refine ⟨⟨by omega,by omega⟩,hB _ ⟨j+1,e1⟩ (by simp only;omega) (Wk.mk [] [] rfl rfl (by simp only [go_sem]) (by simp only [go_sem]) (by simp only [rv,go_sem]))⟩
 ·have e1:j=s:=by simp only [decide_eq_false_iff_not] at h1;omega
  subst e1
  exact Fin.bQ _ rfl rfl rfl rfl
theorem amr (b:List UInt8):uw (eG b)=some b:=by
 induction b with
 |nil=>rfl
 |cons x b ih=>
  have e:eG (x::b)=[.v (.int .u8 (x.toNat:Int))]::eG b:=rfl
  rw [e]
  simp only [uw,ih,Int.toNat_natCast]
  simp
theorem ba_eq (a b:List UInt8):((⟨a.toArray⟩:ByteArray).toList==(⟨b.toArray⟩:ByteArray).toList)=decide (a=b):=by
 rw [ByteArray.toList_eq,ByteArray.toList_eq]
 by_cases h:a=b
 ·simp [h]
 ·simp [h]
theorem ams (a b:List UInt8):Fn Tryz.prog 272 [iM a,iM b] [] (Bo (decide (a=b))) [] []:=by
 refine Fn.aN aiO (by simp) ?_
 unfold SL SC.mk'
 simp only [amr,go_sem]
 refine Fin.bQ _ rfl rfl rfl ?_
 simp only [ay,ba_eq]
end Go.Eng
namespace Go.Eng
open Go Go.Proofs
attribute [local go_sem] Int.cast_ofNat_Int Int.reduceBEq Int.reduceLT Int.reduceLE Int.reduceSub Int.reduceAdd Int.reduceNeg Int.reduceEq Int.reduceToNat decide_true decide_false decide_eq_true_eq beq_self_eq_true bne_self_eq_false List.reduceReplicate List.length_set List.length_replicate List.length_cons List.length_nil List.set_cons_zero List.set_cons_succ Int.toNat_natCast
def Aw (b:List UInt8):AV:=match parse b with
 |some h=> .aF [.agg h.enc,I 0]
 |none=> .aF [.agg zH.enc,I 8]
theorem Om {b:List UInt8} (h:parse b=none):Aw b= .aF [.agg zH.enc,I 8]:=by unfold Aw;rw [h]
theorem abG {b:List UInt8} {x:Hd} (h:parse b=some x):Aw b= .aF [.agg x.enc,I 0]:=by unfold Aw;rw [h]
theorem b10:((1:Int) !=0)=true:=rfl
theorem amu {p:Prop} [Decidable p] (h:¬ p):decide p=false:=by simp [h]
theorem abH (b:List UInt8):Fn Tryz.prog 184 [iM b] [] (Aw b) [] []:=by
 refine Fn.aN aiH (by simp) ?_
 unfold SA SC.mk'
 simp only [go_sem]
 by_cases h1:b.length=16
 ·have e1:((b.length:Int) !=16)=false:=by simp [h1]
  simp only [e1,go_sem]
  refine aO (Ol b 1 4 (by omega) (by omega) (by omega)) rfl rfl ?_;simp only [go_sem]
  refine aO (Ol b 5 3 (by omega) (by omega) (by omega)) rfl rfl ?_;simp only [go_sem]
  refine aO (Ol b 8 2 (by omega) (by omega) (by omega)) rfl rfl ?_;simp only [go_sem]
  refine aO (Ol b 10 1 (by omega) (by omega) (by omega)) rfl rfl ?_;simp only [go_sem]
  have hF:=Fz (rH b)
  unfold encR at hF
  by_cases hk:(rH b).ok
  ·rw [if_pos hk] at hF
   refine aO hF rfl rfl ?_;simp only [go_sem]
   have hq:(rH b).id=gN b 1 4∧(rH b).gen=gN b 5 3∧(rH b).route=gN b 8 2∧(rH b).hint=gN b 10 1:=⟨rfl,rfl,rfl,rfl⟩
   refine aO (ams (yM (rH b)) b) rfl rfl ?_;simp only [go_sem]
   by_cases ht:yM (rH b)=b
   ·have hp:parse b=some (rH b):=by unfold parse;rw [if_pos ⟨h1,hk,ht⟩]
    rw [abG hp]
    simp only [ht,go_sem]
    exact Fin.bQ _ rfl rfl rfl rfl
   ·have hp:parse b=none:=by unfold parse;rw [if_neg (fun h=>ht h.2.2)]
    rw [Om hp]
    simp only [amu ht,go_sem]
    exact Fin.bQ _ rfl rfl rfl rfl
  ·rw [if_neg hk] at hF
   refine aO hF rfl rfl ?_;simp only [go_sem]
   have hp:parse b=none:=by unfold parse;rw [if_neg (fun h=>hk h.2.1)]
   rw [Om hp]
   simp only [b10,go_sem]
   exact Fin.bQ _ rfl rfl rfl rfl
 ·have e1:((b.length:Int) !=16)=true:=by simp;omega
  have hp:parse b=none:=by unfold parse;rw [if_neg (fun h=>h1 h.1)]
  rw [Om hp]
  simp only [e1,go_sem]
  exact Fin.bQ _ rfl rfl rfl rfl
end Go.Eng
namespace Go.Eng
open Go Go.Proofs
attribute [local go_sem] Int.cast_ofNat_Int Int.reduceBEq Int.reduceLT Int.reduceLE Int.reduceSub Int.reduceAdd Int.reduceNeg Int.reduceEq Int.reduceToNat decide_true decide_false decide_eq_true_eq beq_self_eq_true bne_self_eq_false List.reduceReplicate List.length_set List.length_replicate List.length_cons List.length_nil List.set_cons_zero List.set_cons_succ Int.toNat_natCast
theorem abI {hs:List (List UInt8)} {k:Nat} (h:k<hs.length):nth (dm hs) k=[iM (hs[k]?.getD [])]:=by simp [dm,nth,h]
attribute [go_sem] fE
def FB (b:List UInt8) (h:Hd):List UInt8:=if h.ok then yM h else b
def FC (v:Int) (h:Hd):Hd:=
 if v=2 then ⟨h.id,h.gen+1,h.route,h.hint⟩ else if v=3 then ⟨h.id,h.gen - 1,h.route,h.hint⟩ else ⟨h.id,h.gen,(h.route+1).tmod 65536,h.hint⟩
def FD (v:Int) (b:List UInt8):List UInt8:=match parse b with
 |none=>b
 |some h=>if v=2∨v=3∨v=4 then FB b (FC v h) else if v=5 then flip b else b
def WM (i:Int) (n:Nat):Nat:=((max i 0).tmod n).toNat
def Az (i v:Int) (raw:List UInt8) (hs:List (List UInt8)):List UInt8:=
 if v=7∨hs.length=0 then raw else FD v (hs[WM i hs.length]?.getD [])
theorem amv {v:Int} {b:List UInt8} (h:parse b=none):FD v b=b:=by unfold FD;rw [h]
theorem amw {v:Int} {b:List UInt8} {x:Hd} (h:parse b=some x):FD v b=if v=2∨v=3∨v=4 then FB b (FC v x) else if v=5 then flip b else b:=by unfold FD;rw [h]
theorem amx {b:List UInt8} {x:Hd} (h:parse b=some x):b.length=16:=by
 unfold parse at h
 split at h
 ·rename_i c;exact c.1
 ·cases h
theorem amy (b:List UInt8) (k:Nat) (x:UInt8):(eG b).set k [B8 x]=eG (b.set k x):=by simp [eG,List.map_set]
theorem amz (x:UInt8):((x.toNat ^^^ 1:Nat):Int)=(((x ^^^ 1).toNat:Nat):Int):=rfl
theorem amA (b:List UInt8):(flip b).length=b.length:=by simp [flip]
theorem amB {b:List UInt8} (hl:b.length=16):(eG b).set 15 [.v (.int .u8 ((qi b 15 ^^^ 1:Nat):Int))]=eG (flip b):=by
 unfold qi flip
 rw [amz,hl]
 exact amy b 15 _
theorem b80:((8:Int) !=0)=true:=rfl
theorem abJ (i v:Int) (raw:List UInt8) (hs:List (List UInt8)):Fn Tryz.prog 93 [.agg [I i,I v,iM raw],.sl 1 (dm hs)] [] (iM (Az i v raw hs)) [] []:=by
 refine Fn.aN ais (by simp) ?_
 unfold RP SC.mk' Az
 by_cases h7:v=7
 ·have e7:(v==7)=true:=by simp [h7]
  rw [if_pos (Or.inl h7)]
  simp only [e7,go_sem]
  exact Fin.bQ _ rfl rfl rfl rfl
 have e7:(v==7)=false:=by simp [h7]
 by_cases h0:hs.length=0
 ·have e0:((hs.length:Int)==0)=true:=by simp [h0]
  rw [if_pos (Or.inr h0)]
  simp only [e7,e0,go_sem]
  exact Fin.bQ _ rfl rfl rfl rfl
 have e0:((hs.length:Int)==0)=false:=by simp [h0]
 rw [if_neg (by omega)]
 have hm0:0≤(max i 0).tmod (hs.length:Int):=Int.tmod_nonneg _ (by omega)
 have hm1:(max i 0).tmod (hs.length:Int)<hs.length:=Int.tmod_lt_of_pos _ (by omega)
 have hn:nth (dm hs) ((max i 0).tmod (hs.length:Int)).toNat=[iM (hs[WM i hs.length]?.getD [])]:=abI (by omega)
 simp only [e7,e0,hn,go_sem]
 refine ⟨by omega,⟨hm0,hm1⟩,?_⟩
 generalize hs[WM i hs.length]?.getD []=b
 have hF:=abH b
 cases hp:parse b with
 |none=>
  rw [Om hp] at hF
  rw [amv hp]
  refine aO hF rfl rfl ?_;simp only [Hd.enc,b80,go_sem]
  exact Fin.bQ _ rfl rfl rfl rfl
 |some x=>
  rw [abG hp] at hF
  rw [amw hp]
  have ho:=abz hp
  have hl:=amx hp
  obtain ⟨id,gen,route,hint⟩:=x
  obtain ⟨⟨a1,a2⟩,⟨a3,a4⟩,⟨a5,a6⟩,⟨a7,a8⟩⟩:=ho
  simp only at a1 a2 a3 a4 a5 a6 a7 a8
  have w1:IntKind.i64.wrap (gen+1)=gen+1:=bH (by omega)
  have w2:IntKind.i64.wrap (gen - 1)=gen - 1:=bH (by omega)
  have w3:IntKind.i64.wrap (route+1)=route+1:=bH (by omega)
  refine aO hF rfl rfl ?_
  simp only [Hd.enc,go_sem]
  have hE:∀ h:Hd,encR h=if h.ok then .aF [iM (yM h),I 0] else .aF [Nl,I 1]:=fun _=>rfl
  by_cases v2:v=2
  ·have e2:(v==2)=true:=by simp [v2]
   rw [if_pos (Or.inl v2)]
   simp only [e2,w1,FC,v2,go_sem]
   have hG:=Fz ⟨id,gen+1,route,hint⟩
   unfold FB
   rw [hE] at hG
   by_cases hk:Hd.ok ⟨id,gen+1,route,hint⟩
   ·rw [if_pos hk] at hG ⊢
    refine aO hG rfl rfl ?_;simp only [go_sem]
    exact Fin.bQ _ rfl rfl rfl rfl
   ·rw [if_neg hk] at hG ⊢
    refine aO hG rfl rfl ?_;simp only [b10,go_sem]
    exact Fin.bQ _ rfl rfl rfl rfl
  have e2:(v==2)=false:=by simp [v2]
  by_cases v3:v=3
  ·have e3:(v==3)=true:=by simp [v3]
   rw [if_pos (Or.inr (Or.inl v3))]
   simp only [e2,e3,w2,FC,v3,go_sem]
   have hG:=Fz ⟨id,gen - 1,route,hint⟩
   unfold FB
   rw [hE] at hG
   by_cases hk:Hd.ok ⟨id,gen - 1,route,hint⟩
   ·rw [if_pos hk] at hG ⊢
    refine aO hG rfl rfl ?_;simp only [go_sem]
    exact Fin.bQ _ rfl rfl rfl rfl
   ·rw [if_neg hk] at hG ⊢
    refine aO hG rfl rfl ?_;simp only [b10,go_sem]
    exact Fin.bQ _ rfl rfl rfl rfl
  have e3:(v==3)=false:=by simp [v3]
  by_cases v4:v=4
  ·have e4:(v==4)=true:=by simp [v4]
   rw [if_pos (Or.inr (Or.inr v4))]
   simp only [e2,e3,e4,w3,FC,v4,go_sem]
   have hG:=Fz ⟨id,gen,(route+1).tmod 65536,hint⟩
   unfold FB
   rw [hE] at hG
   refine ⟨by decide,?_⟩
   by_cases hk:Hd.ok ⟨id,gen,(route+1).tmod 65536,hint⟩
   ·rw [if_pos hk] at hG ⊢
    refine aO hG rfl rfl ?_;simp only [go_sem]
    exact Fin.bQ _ rfl rfl rfl rfl
   ·rw [if_neg hk] at hG ⊢
    refine aO hG rfl rfl ?_;simp only [b10,go_sem]
    exact Fin.bQ _ rfl rfl rfl rfl
  have e4:(v==4)=false:=by simp [v4]
  rw [if_neg (by simp only [v2,v3,v4,or_self,not_false_eq_true])]
  by_cases v5:v=5
  ·have e5:(v==5)=true:=by simp [v5]
   rw [if_pos v5]
   simp only [e2,e3,e4,e5,go_sem]
   have el:IntKind.i64.wrap ((b.length:Int) - 1)=((15:Nat):Int):=by rw [hl];decide
   have hm:b.length≤maxLen:=by rw [hl];decide
   have hn5:nth (eG b) 15=[.v (.int .u8 (qi b 15:Nat))]:=abB (by omega)
   have hx:bits .xor .u8 ((qi b 15:Nat):Int) 1=((qi b 15 ^^^ 1:Nat):Int):=abw .u8 8 (by decide) wraps_u8 (qi b 15) 1 (WL b 15) (by decide)
   simp only [el,Int.toNat_natCast,List.drop_zero,abC,hn5,hx,List.getElem?_cons_zero,Option.getD_some,List.set_cons_zero,amB hl,go_sem]
   have hfl:(flip b).length=16:=by rw [amA,hl]
   refine ⟨⟨by omega,hm⟩,by omega,by omega,by omega,by omega,Fin.mk0 _ rfl rfl ?_⟩
   simp [ay,rv,au,get,oH,hfl,hl]
   exact (Au hfl).symm
  ·have e5:(v==5)=false:=by simp [v5]
   rw [if_neg v5]
   simp only [e2,e3,e4,e5,go_sem]
   exact Fin.bQ _ rfl rfl rfl rfl
end Go.Eng
namespace Go.Eng
open Go
def Due.before (a b:Due):Bool:=decide (a.dl<b.dl)||(a.dl==b.dl&&decide (a.id<b.id))
def Due.sound (d:Due):Bool:=decide (0≤d.dl)&&(decide (d.dl≤1073741824)&&(decide (1≤d.id)&&decide (d.id≤1073741824)))
def gD (h:List Due) (i:Nat):Due:=h[i]?.getD Due.z
def qj (id:Int):List Due→Nat→Int
 |[],_=> -1
 |d::r,i=>if d.id==id then i else qj id r (i+1)
def Oo (h:List Due):List Due→Nat→Int
 |[],_=>0
 |d::r,i=>if d.before (gD h ((i - 1) / 2)) then 11 else Oo h r (i+1)
def FH (h:List Due):List Due→Nat→Int
 |[],_=>Oo h (h.drop 1) 1
 |d::r,i=>if qj d.id h 0 !=i then 10 else FH h r (i+1)
def Dl (h:List Due):List Due→Int
 |[]=>FH h h 0
 |d::r=>if d.sound then Dl h r else 1
def jl (h:List Due):Int:=if (12:Int)<h.length then 2 else Dl h h
def oK (h:List Due) (i k:Nat):List Due:=(h.set i (gD h k)).set k (gD h i)
def l9 (h:List Due):Nat→Nat→List Due
 |0,_=>h
 |f+1,i=>if 0<i∧(gD h i).before (gD h ((i - 1) / 2))=true then l9 (oK h i ((i - 1) / 2)) f ((i - 1) / 2) else h
def wP (h:List Due) (i:Nat):Nat:=if 2*i+2<h.length∧(gD h (2*i+2)).before (gD h (2*i+1))=true then 2*i+2 else 2*i+1
def tJ (h:List Due):Nat→Nat→List Due
 |0,_=>h
 |f+1,i=>if 2*i+1<h.length then (if (gD h (wP h i)).before (gD h i) then tJ (oK h i (wP h i)) f (wP h i) else h) else h
def yN (h:List Due) (d:Due):List Due×Int:=
 if jl h !=0 then ([],jl h) else if !d.sound then ([],1) else if (h.length:Int)==12 then ([],3) else if decide (0≤qj d.id h 0) then ([],10)
 else (l9 (h++[d]) h.length h.length,0)
def rJ (h:List Due) (i:Nat):List Due:=
 let n:=h.length - 1
 let x:=h.take n
 if i=n then x else
  let y:=x.set i (gD h n)
  if 0<i∧(gD y i).before (gD y ((i - 1) / 2))=true then l9 y i i else tJ y n i
def wQ (h:List Due) (id:Int):List Due×Int:=
 if jl h !=0 then ([],jl h) else if qj id h 0<0 then ([],4) else (rJ h (qj id h 0).toNat,0)
def lu (now:Int):Nat→List Due→List Int
 |0,_=>[]
 |f+1,h=>if jl h==0∧0<h.length∧(gD h 0).dl≤now then (gD h 0).id::lu now f (rJ h 0) else []
def gL (l:List Lease) (i:Nat):Lease:=l[i]?.getD Lease.z
def yO (id:Int):List Lease→Nat→Int
 |[],_=> -1
 |x::r,i=>if x.msg.id==id then i else yO id r (i+1)
def Table.find (t:Table) (id:Int):Int:=yO id t.l 0
def Dn (t:Table):List Due→Int
 |[]=>0
 |d::r=>if t.find d.id<0 then 7 else if (gL t.l (t.find d.id).toNat).dl !=d.dl then 7 else Dn t r
def wR (t:Table):List Lease→Nat→Int
 |[],_=>if jl t.heap !=0 then jl t.heap else if t.heap.length≠t.l.length then 7 else Dn t t.heap
 |x::r,i=>if x.msg.val !=0 then x.msg.val else if x.msg.gen==0 then 7 else if decide (x.dl<0)||decide (1073741824<x.dl) then 1
  else if 0<i∧x.msg.id≤(gL t.l (i - 1)).msg.id then 11 else wR t r (i+1)
def Table.val (t:Table):Int:=if (12:Int)<t.l.length then 2 else wR t t.l 0
def yP (id:Int):List Lease→Nat→Nat
 |[],i=>i
 |x::r,i=>if x.msg.id<id then yP id r (i+1) else i
def Table.grant (t:Table) (m:ai) (dl:Int):Table×Int:=
 if t.val !=0 then (Table.z,t.val) else if m.val !=0 then (Table.z,m.val) else if m.gen==0 then (Table.z,7)
 else if decide (dl<0)||decide (1073741824<dl) then (Table.z,1) else if (t.l.length:Int)==12 then (Table.z,3) else if decide (0≤t.find m.id) then (Table.z,10)
 else (⟨t.l.take (yP m.id t.l 0)++⟨m,dl⟩::t.l.drop (yP m.id t.l 0),(yN t.heap ⟨dl,m.id⟩).1⟩,0)
def Table.find' (t:Table) (id:Int):Lease×Bool:=if t.val !=0∨t.find id<0 then (Lease.z,false) else (gL t.l (t.find id).toNat,true)
def Table.release (t:Table) (id:Int):Table×ai×Int:=
 if t.val !=0 then (Table.z,ai.z,t.val) else if t.find id<0 then (Table.z,ai.z,4)
 else (⟨t.l.eraseIdx (t.find id).toNat,(wQ t.heap id).1⟩,(gL t.l (t.find id).toNat).msg,0)
def Table.extend (t:Table) (id dl:Int):Table×Int:=
 if t.val !=0 then (Table.z,t.val) else if t.find id<0 then (Table.z,4) else if decide (dl<0)||decide (1073741824<dl) then (Table.z,1)
 else (⟨t.l.set (t.find id).toNat ⟨(gL t.l (t.find id).toNat).msg,dl⟩,(yN (wQ t.heap id).1 ⟨dl,id⟩).1⟩,0)
def yQ (t:Table) (epoch:Int):List Int→List Int
 |[]=>[]
 |id::r=>if (t.find' id).1.msg.epoch<epoch then yQ t epoch r else id::yQ t epoch r
def Table.yR (t:Table) (now epoch:Int):List Int:=if t.val !=0 then [] else yQ t epoch (lu now 13 t.heap)
end Go.Eng
namespace Go.Eng
open Go
def Ring.val (r:Ring):Int:=fP r.cells r.head r.size
def Ring.list (r:Ring):List ai:=Ap r.cells r.head r.size
def Ring.mk' (n h:Nat) (l:List ai):Ring:=⟨fG n h l,h,l.length⟩
def Ring.room (r:Ring) (m:ai):Int:=lq r.cells r.head r.size m
def Ring.new (k:Int):Ring×Int:=if k<1 then (Ring.z,1) else if 12<k then (Ring.z,1) else (Ring.mk' k.toNat 0 [],0)
def Ring.wS (r:Ring) (m:ai):Ring×Int:=
 if r.room m≠0 then (Ring.z,r.room m) else (Ring.mk' r.cells.length r.head.toNat (gJ r.cells r.head.toNat r.size.toNat++[m]),0)
def Ring.Dp (r:Ring) (m:ai):Ring×Int:=
 if r.room m≠0 then (Ring.z,r.room m) else (Ring.mk' r.cells.length ((r.head.toNat+(r.cells.length - 1)) % r.cells.length) (m::gJ r.cells r.head.toNat r.size.toNat),0)
def Ring.remove (r:Ring) (id:Int):Ring×ai×Int:=
 if r.val≠0 then (Ring.z,ai.z,r.val) else if gG r.list id<0 then (Ring.z,ai.z,4)
 else (Ring.mk' r.cells.length r.head.toNat (r.list.eraseIdx (gG r.list id).toNat),gt r.list (gG r.list id).toNat,0)
def Ring.jg (r:Ring) (k:Int):Ring×List ai×Int:=
 if r.val≠0 then (Ring.z,[],r.val) else if k<0∨r.size<k then (Ring.z,[],1)
 else (Ring.mk' r.cells.length r.head.toNat (r.list.take (r.list.length - k.toNat)),r.list.drop (r.list.length - k.toNat),0)
def ai.iV (m:ai) (epoch:Int):Bool:=decide (m.epoch<epoch)
def ai.spent (m:ai) (limit:Int):Bool:=decide (limit≤m.count)
def ai.FI (m:ai) (epoch limit:Int):Bool:= !m.iV epoch&&(!m.spent limit&&decide (m.gen<65536))
def ai.kM (m:ai):ai×Int:=if m.val≠0 then (ai.z,m.val) else if m.gen==65536 then (ai.z,6) else if m.count==8 then (ai.z,7)
 else ({m with count:=m.count+1,gen:=m.gen+1},0)
def ai.new (id route epoch now:Int) (body:ByteArray):ai×Int:=
 let m:ai:=⟨id,route,epoch,0,0,now,body⟩
 if m.val≠0 then (ai.z,m.val) else (m,0)
def ai.iQ (m:ai):ai:={m with count:=0}
def ai.rM (m:ai) (low high:Int):ai:={m with route:=Fg m.route low high}
def AA (low high:Int):Bool:=decide (0≤low)&&(decide (low≤high)&&decide (high<65536))
def aj.new (cap low high:Int):aj×Int:=if (Ring.new cap).2≠0 then (aj.z,(Ring.new cap).2) else if !AA low high then (aj.z,1)
 else (⟨true,low,high,(Ring.new cap).1,Table.z⟩,0)
def aj.free (cap:Int):aj×Int:=if (Ring.new cap).2≠0 then (aj.z,(Ring.new cap).2) else (⟨false,0,0,(Ring.new cap).1,Table.z⟩,0)
def aj.fB (s:aj):List ai:=s.aP.l.map Lease.msg
def aj.all (s:aj):List ai:=s.ready.list++s.fB
def FK (l:List ai):List ai→Nat→Int
 |[],_=>0
 |m::r,i=>if gG l m.id !=i then 10 else FK l r (i+1)
def FM (l:List ai) (low high:Int):List ai→Int
 |[]=>FK l l 0
 |m::r=>if decide (m.route<low)||decide (high<m.route) then 12 else FM l low high r
def aj.cnt (s:aj):Int:=s.ready.size+s.aP.l.length
def aj.val (s:aj):Int:=if s.ready.val≠0 then s.ready.val else if s.aP.val≠0 then s.aP.val
 else if !s.live then (if s.low !=0||(s.high !=0||decide (0<s.cnt)) then 7 else 0)
 else if !AA s.low s.high then 1 else if (s.ready.cells.length:Int)<s.cnt then 3 else FM s.all s.low s.high s.all
def aj.lv (s:aj):Int:=if s.val≠0 then s.val else if !s.live then 7 else 0
def jV (n:Int):Bool:=decide (0≤n)&&decide (n≤65536)
def lC (n:Int):Bool:=decide (1≤n)&&decide (n≤8)
def ql (n:Int):Bool:=decide (0≤n)&&decide (n≤1073741824)
def rO (n:Int):Bool:=decide (0≤n)&&decide (n≤1000)
def aj.stored (s:aj):Int:=if s.lv≠0 then 0 else s.cnt
def aj.owns (s:aj) (route:Int):Bool:=s.lv==0&&(decide (s.low≤route)&&decide (route≤s.high))
def oL {α:Type} (p:α→Bool) (l:List α):Int:=(l.filter p).length
def aj.counts (s:aj) (epoch limit:Int):Int×Int:=if s.lv≠0∨jV epoch=false∨lC limit=false then (0,0)
 else (oL (fun m:ai=> !m.iV epoch&& !m.spent limit) s.ready.list,oL (fun m:ai=> !m.iV epoch) s.fB)
def aj.put (s:aj) (m:ai):aj×Int:=if s.lv≠0 then (aj.z,s.lv) else if m.val≠0 then (aj.z,m.val)
 else if decide (m.route<s.low)||decide (s.high<m.route) then (aj.z,12) else if s.stored==s.ready.cells.length then (aj.z,3)
 else if decide (0≤gG s.all m.id) then (aj.z,10) else ({s with ready:=(s.ready.wS m).1},0)
def qm (max dl epoch limit:Int):List ai→aj→List Lease→aj×List Lease
 |[],s,out=>(s,out)
 |m::r,s,out=>if (out.length:Int)<max then
  (if m.FI epoch limit then qm max dl epoch limit r {s with ready:=(s.ready.remove m.kM.1.id).1,aP:=(s.aP.grant m.kM.1 dl).1} (out++[⟨m.kM.1,dl⟩])
   else qm max dl epoch limit r s out) else (s,out)
def aj.take (s:aj) (max now vis epoch limit:Int):aj×List Lease×Int:=if s.lv≠0 then (aj.z,[],s.lv)
 else if jV epoch=false∨lC limit=false∨ql now=false∨rO vis=false∨max<1∨6<max then (aj.z,[],1)
 else if 1073741824<now+vis then (aj.z,[],6)
 else ((qm max (now+vis) epoch limit s.ready.list s []).1,(qm max (now+vis) epoch limit s.ready.list s []).2,0)
def aj.holds (s:aj) (h:Hd) (now epoch:Int):Bool:=if s.lv≠0∨jV epoch=false∨ql now=false then false
 else (s.aP.find' h.id).2&&((s.aP.find' h.id).1.msg.gen==h.gen&&((s.aP.find' h.id).1.msg.route==h.route&&(!(s.aP.find' h.id).1.msg.iV epoch&&decide (now<(s.aP.find' h.id).1.dl))))
def aj.held (s:aj) (h:Hd) (now epoch:Int) (good:Bool):Int:=if s.lv≠0 then s.lv else if jV epoch=false∨ql now=false∨good=false then 1
 else if !s.holds h now epoch then 5 else 0
def aj.AB (s:aj) (h:Hd) (now epoch:Int):aj×Int:=if s.held h now epoch true≠0 then (aj.z,s.held h now epoch true)
 else ({s with aP:=(s.aP.release h.id).1},0)
def aj.AL (s:aj) (h:Hd) (now epoch limit:Int):aj×Int:=if s.held h now epoch (lC limit)≠0 then (aj.z,s.held h now epoch (lC limit))
 else ({s with aP:=(s.aP.release h.id).1,ready:=if (s.aP.release h.id).2.1.spent limit then (s.ready.wS (s.aP.release h.id).2.1).1 else (s.ready.Dp (s.aP.release h.id).2.1).1},0)
def aj.change (s:aj) (h:Hd) (now epoch vis:Int):aj×Int:=if s.held h now epoch (rO vis)≠0 then (aj.z,s.held h now epoch (rO vis))
 else if 1073741824<now+vis then (aj.z,6) else ({s with aP:=(s.aP.extend h.id (now+vis)).1},0)
def AO:List Int→aj→aj
 |[],s=>s
 |id::r,s=>AO r {s with aP:=(s.aP.release id).1,ready:=(s.ready.wS (s.aP.release id).2.1).1}
def aj.expire (s:aj) (now epoch limit:Int):aj×List Int×Int:=if s.lv≠0 then (aj.z,[],s.lv)
 else if jV epoch=false∨lC limit=false∨ql now=false then (aj.z,[],1)
 else (AO (s.aP.yR now epoch) s,s.aP.yR now epoch,0)
def wU (epoch:Int):List ai→aj→Int→aj×Int
 |[],s,n=>(s,n)
 |m::r,s,n=>if m.iV epoch then wU epoch r {s with ready:=(s.ready.remove m.id).1} (n+1) else wU epoch r s n
def wV (epoch:Int):List ai→aj→Int→aj×Int
 |[],s,n=>(s,n)
 |m::r,s,n=>if m.iV epoch then wV epoch r {s with aP:=(s.aP.release m.id).1} (n+1) else wV epoch r s n
def aj.clean (s:aj) (epoch:Int):aj×Int×Int:=if s.lv≠0 then (aj.z,0,s.lv) else if jV epoch=false then (aj.z,0,1)
 else
  let x:=wU epoch s.ready.list s 0
  let y:=wV epoch s.fB x.1 x.2
  (y.1,y.2,0)
def aj.jg (s:aj) (k:Int):aj×List ai×Int:=if s.lv≠0 then (aj.z,[],s.lv) else if (s.ready.jg k).2.2≠0 then (aj.z,[],(s.ready.jg k).2.2)
 else ({s with ready:=(s.ready.jg k).1},(s.ready.jg k).2.1,0)
def AP (low high:Int):List ai→aj→aj×Int
 |[],s=>(s,0)
 |m::r,s=>if (s.put (m.rM s.low s.high)).2≠0 then (aj.z,(s.put (m.rM s.low s.high)).2) else AP low high r (s.put (m.rM s.low s.high)).1
def aj.vk (s:aj) (l:List ai):aj×Int:=if s.lv≠0 then (aj.z,s.lv) else if (s.ready.cells.length:Int) - s.stored<l.length then (aj.z,3)
 else AP s.low s.high l s
def oM (k epoch limit:Int):List ai→aj→List ai→aj×List ai
 |[],s,out=>(s,out)
 |m::r,s,out=>if (out.length:Int)<k then
  (if m.spent limit&& !m.iV epoch then oM k epoch limit r {s with ready:=(s.ready.remove m.id).1} (out++[m]) else oM k epoch limit r s out) else (s,out)
def aj.tK (s:aj) (k epoch limit:Int):aj×List ai×Int:=if s.lv≠0 then (aj.z,[],s.lv)
 else if jV epoch=false∨lC limit=false∨k<0 then (aj.z,[],1)
 else ((oM k epoch limit s.ready.list s []).1,(oM k epoch limit s.ready.list s []).2,0)
def tN:List ai→aj→aj
 |[],s=>s
 |m::r,s=>if s.low≤m.route∧m.route≤s.high then tN r {s with ready:=(s.ready.wS m).1} else tN r s
def yS:List Lease→aj→aj
 |[],s=>s
 |x::r,s=>if s.low≤x.msg.route∧x.msg.route≤s.high then yS r {s with aP:=(s.aP.grant x.msg x.dl).1} else yS r s
def aj.fill (s:aj) (ready:List ai) (aP:List Lease):aj:=yS aP (tN ready s)
def aj.divide (s:aj) (mid:Int):aj×aj×Int:=if s.lv≠0 then (aj.z,aj.z,s.lv) else if decide (mid<s.low)||decide (s.high≤mid) then (aj.z,aj.z,1)
 else ((aj.new s.ready.cells.length s.low mid).1.fill s.ready.list s.aP.l,(aj.new s.ready.cells.length (mid+1) s.high).1.fill s.ready.list s.aP.l,0)
def vw (l:List ai):List ai→Bool
 |[]=>false
 |m::r=>decide (0≤gG l m.id)||vw l r
def aj.yT (a b:aj):aj×Int:=if a.val≠0 then (aj.z,a.val) else if b.val≠0 then (aj.z,b.val)
 else if !a.live||(!b.live||((a.high+1 !=b.low)&&(b.high+1 !=a.low))) then (aj.z,7)
 else if (a.ready.cells.length:Int)<a.stored+b.stored then (aj.z,3) else if vw a.all b.all then (aj.z,10)
 else (aj.fill {a with low:=min a.low b.low,high:=max a.high b.high} b.ready.list b.aP.l,0)
end Go.Eng
