/-
  Part of a proof: lemmas and definitions of this work.
  No condition.
-/
import Derived.Test.YtmfankbjapjjiaaGreatA08
import Derived.Test.YtmfankbjapjjiaaGreatA22
set_option linter.all false
set_option maxRecDepth 100000
set_option maxHeartbeats 8000000
namespace Go.Eng
open Go Go.Proofs
theorem amY (l:List Int) (a:Nat) (hl:l.length<=4000):Fn Tryz.prog 53 [.ptr 0 0] [dO l a] (.agg (rz l a).1.enc) [dO l (rz l a).2] []:=by
 generalize hR:rz l a=R
 unfold rz at hR
 simp only at hR
 refine Fn.aO aiS (by simp) ?_
 unfold s53 SC.mk'
 simp only [go_sem]
 have kl:=oq l a 20
 have kh:=ou l a (n:=20) (by omega)
 refine eB (b:=0) (gU l a 20 hl (by omega)) ⟨rfl,⟨rfl,rfl⟩,trivial⟩ rfl rfl rfl rfl ?_
 generalize nV l a 20=k at hR kl kh ⊢
 generalize nN l a 20=a1 at hR ⊢
 simp only [go_sem]
 by_cases k1:k<9
 ·rw [if_pos k1] at hR
  have k1':decide (k<9)=true:=by simpa using k1
  simp only [k1',go_sem]
  refine eB (b:=0) (gU l a1 8 hl (by omega)) ⟨rfl,⟨rfl,rfl⟩,trivial⟩ rfl rfl rfl rfl ?_
  simp only [go_sem]
  refine xW (qU l (nN l a1 8) [1,1,2,3,5,8,14,30] hl (by simp) (by simp)) [0] [88] (I (pk l (nN l a1 8) [1,1,2,3,5,8,14,30])) [dO l (nN l (nN l a1 8) 8)] [] (by simp [au,rv,dU,get]) (by simp [gJ,au,rv,get]) (by simp [gK,get,isRow,encI]) rfl (by simp [jb,au,rv]) (by simp [jc]) (by simp [rv]) ?_
  simp only [go_sem]
  subst hR
  exact Fin.kV _ rfl rfl rfl (by simp [au,rv]) (by simp [ay,bH.enc,au,rv,encS,bW])
 have hk:k=9\/(k=10\/k=11\/k=12)\/(k=13\/k=14)\/(k=15\/k=16)\/k=17\/k=18\/k=19:=by omega
 clear k1 kl kh
 rcases hk with rfl|hk|hk|hk|rfl|rfl|rfl
 ·simp only [Int.reduceLT,if_true,if_false] at hR
  simp only [go_sem]
  refine xW (qU l a1 [0,1,3,10,40] hl (by simp) (by simp)) [0] [96] (I (pk l a1 [0,1,3,10,40])) [dO l (nN l a1 5)] [] (by simp [au,rv,dU,get]) (by simp [gJ,au,rv,get]) (by simp [gK,get,isRow,encI]) rfl (by simp [jb,au,rv]) (by simp [jc]) (by simp [rv]) ?_
  simp only [go_sem]
  subst hR
  exact Fin.kV _ rfl rfl rfl (by simp [au,rv]) (by simp [ay,bH.enc,au,rv,encS,bW])
 ·replace hR:(mF (fU {bJ.z with kind:=1,bodies:=(xk l (fe l (nN l a1 4) 1 2).toNat (eF l (nN l a1 4) 1 2) []).1}),(xk l (fe l (nN l a1 4) 1 2).toNat (eF l (nN l a1 4) 1 2) []).2)=R:=by
   rcases hk with rfl|rfl|rfl<;>exact hR
  rcases hk with rfl|rfl|rfl
  all_goals
   simp only [go_sem]
   refine eB (b:=0) (gU l a1 4 hl (by omega)) ⟨rfl,⟨rfl,rfl⟩,trivial⟩ rfl rfl rfl rfl ?_
   simp only [go_sem]
   generalize nV l a1 4=slot
   generalize nN l a1 4=a2 at hR ⊢
   have v1:=Dp l a2 1 2
   have v2:=wH l a2 (lo:=1) (hi:=2) (by omega)
   refine eB (b:=0) (kY l a2 1 2 hl (by omega) (by omega)) ⟨rfl,⟨rfl,rfl⟩,⟨rfl,rfl⟩,trivial⟩ rfl rfl rfl rfl ?_
   simp only [go_sem]
   generalize fe l a2 1 2=v at hR v1 v2 ⊢
   generalize eF l a2 1 2=a3 at hR ⊢
   generalize hL:xk l v.toNat a3 []=L at hR
   refine go_loop (fun x:{x:Nat×Nat×List ByteArray // x.2.2.length+x.1<=2/\xk l x.1 x.2.1 x.2.2=L}=>⟨5000,[(0,.ptr 0 0),(2,.ptr 8 0),(4,.ptr 96 0),(6,I x.1.1)],[(0,.box (dO l x.1.2.1)),(8,.box [I 0,I 0,I 0,I 0,I 0,I 0,I 0,I 0,I 0,Nl,Nl,Nl]),(96,.box [I 3,Z,Z,I 1,Z,Z,Z,Z,Z,.own 4000 1 0 x.1.2.2.length,Nl,Nl]),(4000,.row 9 1 (encS x.1.2.2))]⟩) (fun x=>x.1.1) ⟨(v.toNat,a3,[]),by simp<;>omega,hL⟩ (Wk.mk [(0,0),(8,8),(96,96)] [4000] rfl rfl (by simp only [cO,bK,au,rv,go_sem]<;>try simp) (by simp only [gY,go_sem]<;>try simp [encS]) (by simp only [d9,rv,au,go_sem]<;>simp;omega)) ?_
   rintro ⟨⟨i,a4,acc⟩,hi,he⟩ B hB
   simp only at hi he
   simp only [go_sem]
   rcases i with _|i
   ·simp only [xk] at he
    have e2:decide ((0:Int)<((0:Nat):Int))=false:=by simp
    have e3:List.take acc.length (encS acc)=encS acc:=bB (by simp [encS])
    simp only [e2,go_sem]
    refine iK (tC (fU {bJ.z with kind:=1,bodies:=acc})) ?_ rfl rfl rfl ?_
    ·simp [au,rv,get,fU,bH.enc,encS,bW]
    simp only [bH.enc,go_sem]
    subst he
    subst hR
    exact Fin.kV _ rfl rfl rfl (by simp [au,rv]) (by simp [ay,au,rv])
   ·have e2:decide ((0:Int)<((i+1:Nat):Int))=true:=by simp<;>omega
    simp only [xk] at he
    have e3:List.take acc.length (encS acc)=encS acc:=bB (by simp [encS])
    have e4:encS acc++[[.v (.string (JU l a4))]]=encS (acc++[JU l a4]):=by simp [encS]
    have hm1:acc.length+1<=maxLen:=Nat.le_trans (show acc.length+1<=100 by omega) (by decide)
    have hw:IntKind.i64.wrap (((i+1:Nat):Int) - 1)=((i:Nat):Int):=by rw [bF (by omega)];omega
    simp only [e2,go_sem]
    refine ug (b:=0) (akj l a4 hl) ⟨rfl,trivial⟩ rfl rfl rfl rfl ?_
    simp only [e3,e4,hw,dX,go_sem]
    repeat (refine bn ?_)
    exact hB _ ⟨(i,VB l a4,acc++[JU l a4]),by simp only [List.length_append,List.length_cons,List.length_nil];omega,he⟩ (by simp only;omega) (wk [(0,0),(8,8),(96,96),(4000,5064)] [])
 ·rcases hk with rfl|rfl
  ·simp only [Int.reduceLT,Int.reduceBEq,Bool.or_false,Bool.or_true,Bool.true_or,Bool.false_or,if_true,if_false,Bool.false_eq_true] at hR
   simp only [go_sem]
   refine eB (b:=0) (gU l a1 4 hl (by omega)) ⟨rfl,⟨rfl,rfl⟩,trivial⟩ rfl rfl rfl rfl ?_
   simp only [go_sem]
   generalize nV l a1 4=slot at hR ⊢
   generalize nN l a1 4=a2 at hR ⊢
   refine eB (b:=0) (kY l a2 1 3 hl (by omega) (by omega)) ⟨rfl,⟨rfl,rfl⟩,⟨rfl,rfl⟩,trivial⟩ rfl rfl rfl rfl ?_
   simp only [go_sem]
   refine xW (qU l (eF l a2 1 3) [0,1,5,20,100] hl (by simp) (by simp)) [0] [240] (I (pk l (eF l a2 1 3) [0,1,5,20,100])) [dO l (nN l (eF l a2 1 3) 5)] [] (by simp [au,rv,dU,get]) (by simp [gJ,au,rv,get]) (by simp [gK,get,isRow,encI]) rfl (by simp [jb,au,rv]) (by simp [jc]) (by simp [rv]) ?_
   simp only [go_sem]
   refine iK (tC (fU {bJ.z with kind:=2,home:=slot,max_:=fe l a2 1 3,bC:=pk l (eF l a2 1 3) [0,1,5,20,100]})) ?_ rfl rfl rfl ?_
   ·simp [au,rv,get,fU,bH.enc,encS,bW]
   simp only [bH.enc,go_sem]
   subst hR
   exact Fin.kV _ rfl rfl rfl (by simp [au,rv]) (by simp [ay,au,rv])
  ·simp only [Int.reduceLT,Int.reduceBEq,Bool.or_false,Bool.or_true,Bool.true_or,Bool.false_or,if_true,if_false,Bool.false_eq_true] at hR
   simp only [go_sem]
   refine eB (b:=0) (gU l a1 4 hl (by omega)) ⟨rfl,⟨rfl,rfl⟩,trivial⟩ rfl rfl rfl rfl ?_
   simp only [go_sem]
   generalize nV l a1 4=slot at hR ⊢
   generalize nN l a1 4=a2 at hR ⊢
   refine eB (b:=0) (kY l a2 1 3 hl (by omega) (by omega)) ⟨rfl,⟨rfl,rfl⟩,⟨rfl,rfl⟩,trivial⟩ rfl rfl rfl rfl ?_
   simp only [go_sem]
   refine xW (qU l (eF l a2 1 3) [0,1,5,20,100] hl (by simp) (by simp)) [0] [256] (I (pk l (eF l a2 1 3) [0,1,5,20,100])) [dO l (nN l (eF l a2 1 3) 5)] [] (by simp [au,rv,dU,get]) (by simp [gJ,au,rv,get]) (by simp [gK,get,isRow,encI]) rfl (by simp [jb,au,rv]) (by simp [jc]) (by simp [rv]) ?_
   simp only [go_sem]
   refine iK (tC (fU {bJ.z with kind:=2,home:=slot,max_:=fe l a2 1 3,bC:=pk l (eF l a2 1 3) [0,1,5,20,100]})) ?_ rfl rfl rfl ?_
   ·simp [au,rv,get,fU,bH.enc,encS,bW]
   simp only [bH.enc,go_sem]
   subst hR
   exact Fin.kV _ rfl rfl rfl (by simp [au,rv]) (by simp [ay,au,rv])
 ·replace hR:(let o:=fe l (nN l a1 4) 3 5
   let a3:=eF l (nN l a1 4) 3 5
   let v:Int×Nat:=if o==5 then (pk l a3 [0,1,10,50],nN l a3 4) else (0,a3)
   let x:=iN l (fe l v.2 1 2).toNat (eF l v.2 1 2) []
   (mF {fU {bJ.z with kind:=o,bC:=v.1} with refs:=x.1},x.2))=R:=by
   rcases hk with rfl|rfl<;>exact hR
  simp only at hR
  rcases hk with rfl|rfl
  ·simp only [go_sem]
   refine eB (b:=0) (gU l a1 4 hl (by omega)) ⟨rfl,⟨rfl,rfl⟩,trivial⟩ rfl rfl rfl rfl ?_
   simp only [go_sem]
   generalize nV l a1 4=slot
   generalize nN l a1 4=a2 at hR ⊢
   refine eB (b:=0) (kY l a2 3 5 hl (by omega) (by omega)) ⟨rfl,⟨rfl,rfl⟩,⟨rfl,rfl⟩,trivial⟩ rfl rfl rfl rfl ?_
   simp only [go_sem]
   generalize fe l a2 3 5=o at hR ⊢
   generalize eF l a2 3 5=a3 at hR ⊢
   by_cases o5:(o==5)=true
   ·rw [if_pos o5] at hR
    simp only at hR
    simp only [o5,go_sem]
    refine xW (qU l a3 [0,1,10,50] hl (by simp) (by simp)) [0] [320] (I (pk l a3 [0,1,10,50])) [dO l (nN l a3 4)] [] (by simp [au,rv,dU,get]) (by simp [gJ,au,rv,get]) (by simp [gK,get,isRow,encI]) rfl (by simp [jb,au,rv]) (by simp [jc]) (by simp [rv]) ?_
    simp only [go_sem]
    generalize pk l a3 [0,1,10,50]=bC at hR ⊢
    generalize nN l a3 4=a4 at hR ⊢
    have hv:True:=trivial
    have v1:=Dp l a4 1 2
    have v2:=wH l a4 (lo:=1) (hi:=2) (by omega)
    refine eB (b:=0) (kY l a4 1 2 hl (by omega) (by omega)) ⟨rfl,⟨rfl,rfl⟩,⟨rfl,rfl⟩,trivial⟩ rfl rfl rfl rfl ?_
    simp only [go_sem]
    generalize fe l a4 1 2=v at hR v1 v2 ⊢
    generalize eF l a4 1 2=a5 at hR ⊢
    generalize hL:iN l v.toNat a5 []=L at hR
    refine go_loop (fun x:{x:Nat×Nat×List dx // x.2.2.length+x.1<=2/\iN l x.1 x.2.1 x.2.2=L}=>⟨5000,[(0,.ptr 0 0),(2,.ptr 8 0),(4,.ptr 96 0),(7,I x.1.1)],[(0,.box (dO l x.1.2.1)),(8,.box [I 0,I 0,I 0,I 0,I 0,I 0,I 0,I 0,I 0,Nl,Nl,Nl]),(96,.box [I 3,Z,Z,I o,Z,Z,I bC,Z,Z,Nl,Nl,.own 4000 3 0 x.1.2.2.length]),(4000,.row 164 3 (x.1.2.2.map dx.enc))]⟩) (fun x=>x.1.1) ⟨(v.toNat,a5,[]),by simp<;>omega,hL⟩ (Wk.mk [(0,0),(8,8),(96,96)] [4000] rfl rfl (by simp only [cO,bK,au,rv,go_sem]<;>try simp [hv]) (by simp only [gY,go_sem]<;>try simp [encS]) (by simp only [d9,rv,au,go_sem]<;>simp;omega)) ?_
    rintro ⟨⟨i,b,acc⟩,hi,he⟩ B hB
    simp only at hi he
    simp only [go_sem]
    rcases i with _|i
    ·simp only [iN] at he
     have e2:decide ((0:Int)<((0:Nat):Int))=false:=by simp
     have e3:List.take acc.length (acc.map dx.enc)=acc.map dx.enc:=bB (by simp)
     simp only [e2,go_sem]
     refine iK (tC {fU {bJ.z with kind:=o,bC:=bC} with refs:=acc}) ?_ rfl rfl rfl ?_
     ·simp [au,rv,get,fU,bH.enc,encS,bW]
     simp only [bH.enc,go_sem]
     subst he
     subst hR
     exact Fin.kV _ rfl rfl rfl (by simp [au,rv]) (by simp [ay,au,rv])
    ·have e2:decide ((0:Int)<((i+1:Nat):Int))=true:=by simp<;>omega
     simp only [iN] at he
     have e3:List.take acc.length (acc.map dx.enc)=acc.map dx.enc:=bB (by simp)
     have hm1:acc.length+1<=maxLen:=Nat.le_trans (show acc.length+1<=100 by omega) (by decide)
     have hw:IntKind.i64.wrap (((i+1:Nat):Int) - 1)=((i:Nat):Int):=by rw [bF (by omega)];omega
     simp only [e2,go_sem]
     refine ug (b:=0) (gU l b 6 hl (by omega)) ⟨rfl,⟨rfl,rfl⟩,trivial⟩ rfl rfl rfl rfl ?_
     simp only [go_sem]
     refine Lx (qU l (nN l b 6) [0,0,0,0,2,3,4,5,7] hl (by simp) (by simp)) [0] [5056] (I (pk l (nN l b 6) [0,0,0,0,2,3,4,5,7])) [dO l (nN l (nN l b 6) 9)] [] (by simp [au,rv,dU,get]) (by simp [gJ,au,rv,get]) (by simp [gK,get,isRow,encI]) rfl (by simp [jb,au,rv]) (by simp [jc]) (by simp [rv]) ?_
     simp only [go_sem]
     have b1:=oq l (nN l (nN l b 6) 9) 256
     have b2:=ou l (nN l (nN l b 6) 9) (n:=256) (by omega)
     have zk:IntKind.u8.wrap (nV l (nN l (nN l b 6) 9) 256)=(((nV l (nN l (nN l b 6) 9) 256).toNat.toUInt8.toNat:Nat):Int):=by rw [IntKind.wrap_u8,Dy];omega
     have e4:acc.map dx.enc++[[I (nV l b 6),I (pk l (nN l b 6) [0,0,0,0,2,3,4,5,7]),.sl 1 [[.v (.int .u8 (((nV l (nN l (nN l b 6) 9) 256).toNat.toUInt8.toNat:Nat):Int))]]]]=(acc++[(ny l b).1]).map dx.enc:=by simp [dx.enc,ny,dL]
     refine ug (b:=0) (gU l (nN l (nN l b 6) 9) 256 hl (by omega)) ⟨rfl,⟨rfl,rfl⟩,trivial⟩ rfl rfl rfl rfl ?_
     simp only [zk,e3,hw,List.length_map,go_sem]
     simp only [e4,go_sem]
     repeat (refine bn ?_)
     exact hB _ ⟨(i,nN l (nN l (nN l b 6) 9) 256,acc++[(ny l b).1]),by simp only [List.length_append,List.length_cons,List.length_nil];omega,he⟩ (by simp only;omega) (wk [(0,0),(8,8),(96,96),(4000,5120)] [])
   ·rw [if_neg o5] at hR
    simp only at hR
    simp only [Bool.not_eq_true] at o5
    simp only [o5,go_sem]
    obtain ⟨bC,hv⟩:∃ v:Int,(0:Int)=v:=⟨_,rfl⟩
    replace hR:(let x:=iN l (fe l a3 1 2).toNat (eF l a3 1 2) [];(mF {fU {bJ.z with kind:=o,bC:=bC} with refs:=x.1},x.2))=R:=by subst hv;exact hR
    simp only at hR
    generalize a3=a4 at hR ⊢
    have v1:=Dp l a4 1 2
    have v2:=wH l a4 (lo:=1) (hi:=2) (by omega)
    refine eB (b:=0) (kY l a4 1 2 hl (by omega) (by omega)) ⟨rfl,⟨rfl,rfl⟩,⟨rfl,rfl⟩,trivial⟩ rfl rfl rfl rfl ?_
    simp only [go_sem]
    generalize fe l a4 1 2=v at hR v1 v2 ⊢
    generalize eF l a4 1 2=a5 at hR ⊢
    generalize hL:iN l v.toNat a5 []=L at hR
    refine go_loop (fun x:{x:Nat×Nat×List dx // x.2.2.length+x.1<=2/\iN l x.1 x.2.1 x.2.2=L}=>⟨5000,[(0,.ptr 0 0),(2,.ptr 8 0),(4,.ptr 96 0),(7,I x.1.1)],[(0,.box (dO l x.1.2.1)),(8,.box [I 0,I 0,I 0,I 0,I 0,I 0,I 0,I 0,I 0,Nl,Nl,Nl]),(96,.box [I 3,Z,Z,I o,Z,Z,I bC,Z,Z,Nl,Nl,.own 4000 3 0 x.1.2.2.length]),(4000,.row 164 3 (x.1.2.2.map dx.enc))]⟩) (fun x=>x.1.1) ⟨(v.toNat,a5,[]),by simp<;>omega,hL⟩ (Wk.mk [(0,0),(8,8),(96,96)] [4000] rfl rfl (by simp only [cO,bK,au,rv,go_sem]<;>try simp [hv]) (by simp only [gY,go_sem]<;>try simp [encS]) (by simp only [d9,rv,au,go_sem]<;>simp;omega)) ?_
    rintro ⟨⟨i,b,acc⟩,hi,he⟩ B hB
    simp only at hi he
    simp only [go_sem]
    rcases i with _|i
    ·simp only [iN] at he
     have e2:decide ((0:Int)<((0:Nat):Int))=false:=by simp
     have e3:List.take acc.length (acc.map dx.enc)=acc.map dx.enc:=bB (by simp)
     simp only [e2,go_sem]
     refine iK (tC {fU {bJ.z with kind:=o,bC:=bC} with refs:=acc}) ?_ rfl rfl rfl ?_
     ·simp [au,rv,get,fU,bH.enc,encS,bW]
     simp only [bH.enc,go_sem]
     subst he
     subst hR
     exact Fin.kV _ rfl rfl rfl (by simp [au,rv]) (by simp [ay,au,rv])
    ·have e2:decide ((0:Int)<((i+1:Nat):Int))=true:=by simp<;>omega
     simp only [iN] at he
     have e3:List.take acc.length (acc.map dx.enc)=acc.map dx.enc:=bB (by simp)
     have hm1:acc.length+1<=maxLen:=Nat.le_trans (show acc.length+1<=100 by omega) (by decide)
     have hw:IntKind.i64.wrap (((i+1:Nat):Int) - 1)=((i:Nat):Int):=by rw [bF (by omega)];omega
     simp only [e2,go_sem]
     refine ug (b:=0) (gU l b 6 hl (by omega)) ⟨rfl,⟨rfl,rfl⟩,trivial⟩ rfl rfl rfl rfl ?_
     simp only [go_sem]
     refine Lx (qU l (nN l b 6) [0,0,0,0,2,3,4,5,7] hl (by simp) (by simp)) [0] [5056] (I (pk l (nN l b 6) [0,0,0,0,2,3,4,5,7])) [dO l (nN l (nN l b 6) 9)] [] (by simp [au,rv,dU,get]) (by simp [gJ,au,rv,get]) (by simp [gK,get,isRow,encI]) rfl (by simp [jb,au,rv]) (by simp [jc]) (by simp [rv]) ?_
     simp only [go_sem]
     have b1:=oq l (nN l (nN l b 6) 9) 256
     have b2:=ou l (nN l (nN l b 6) 9) (n:=256) (by omega)
     have zk:IntKind.u8.wrap (nV l (nN l (nN l b 6) 9) 256)=(((nV l (nN l (nN l b 6) 9) 256).toNat.toUInt8.toNat:Nat):Int):=by rw [IntKind.wrap_u8,Dy];omega
     have e4:acc.map dx.enc++[[I (nV l b 6),I (pk l (nN l b 6) [0,0,0,0,2,3,4,5,7]),.sl 1 [[.v (.int .u8 (((nV l (nN l (nN l b 6) 9) 256).toNat.toUInt8.toNat:Nat):Int))]]]]=(acc++[(ny l b).1]).map dx.enc:=by simp [dx.enc,ny,dL]
     refine ug (b:=0) (gU l (nN l (nN l b 6) 9) 256 hl (by omega)) ⟨rfl,⟨rfl,rfl⟩,trivial⟩ rfl rfl rfl rfl ?_
     simp only [zk,e3,hw,List.length_map,go_sem]
     simp only [e4,go_sem]
     repeat (refine bn ?_)
     exact hB _ ⟨(i,nN l (nN l (nN l b 6) 9) 256,acc++[(ny l b).1]),by simp only [List.length_append,List.length_cons,List.length_nil];omega,he⟩ (by simp only;omega) (wk [(0,0),(8,8),(96,96),(4000,5120)] [])
  ·simp only [go_sem]
   refine eB (b:=0) (gU l a1 4 hl (by omega)) ⟨rfl,⟨rfl,rfl⟩,trivial⟩ rfl rfl rfl rfl ?_
   simp only [go_sem]
   generalize nV l a1 4=slot
   generalize nN l a1 4=a2 at hR ⊢
   refine eB (b:=0) (kY l a2 3 5 hl (by omega) (by omega)) ⟨rfl,⟨rfl,rfl⟩,⟨rfl,rfl⟩,trivial⟩ rfl rfl rfl rfl ?_
   simp only [go_sem]
   generalize fe l a2 3 5=o at hR ⊢
   generalize eF l a2 3 5=a3 at hR ⊢
   by_cases o5:(o==5)=true
   ·rw [if_pos o5] at hR
    simp only at hR
    simp only [o5,go_sem]
    refine xW (qU l a3 [0,1,10,50] hl (by simp) (by simp)) [0] [336] (I (pk l a3 [0,1,10,50])) [dO l (nN l a3 4)] [] (by simp [au,rv,dU,get]) (by simp [gJ,au,rv,get]) (by simp [gK,get,isRow,encI]) rfl (by simp [jb,au,rv]) (by simp [jc]) (by simp [rv]) ?_
    simp only [go_sem]
    generalize pk l a3 [0,1,10,50]=bC at hR ⊢
    generalize nN l a3 4=a4 at hR ⊢
    have hv:True:=trivial
    have v1:=Dp l a4 1 2
    have v2:=wH l a4 (lo:=1) (hi:=2) (by omega)
    refine eB (b:=0) (kY l a4 1 2 hl (by omega) (by omega)) ⟨rfl,⟨rfl,rfl⟩,⟨rfl,rfl⟩,trivial⟩ rfl rfl rfl rfl ?_
    simp only [go_sem]
    generalize fe l a4 1 2=v at hR v1 v2 ⊢
    generalize eF l a4 1 2=a5 at hR ⊢
    generalize hL:iN l v.toNat a5 []=L at hR
    refine go_loop (fun x:{x:Nat×Nat×List dx // x.2.2.length+x.1<=2/\iN l x.1 x.2.1 x.2.2=L}=>⟨5000,[(0,.ptr 0 0),(2,.ptr 8 0),(4,.ptr 96 0),(7,I x.1.1)],[(0,.box (dO l x.1.2.1)),(8,.box [I 0,I 0,I 0,I 0,I 0,I 0,I 0,I 0,I 0,Nl,Nl,Nl]),(96,.box [I 3,Z,Z,I o,Z,Z,I bC,Z,Z,Nl,Nl,.own 4000 3 0 x.1.2.2.length]),(4000,.row 164 3 (x.1.2.2.map dx.enc))]⟩) (fun x=>x.1.1) ⟨(v.toNat,a5,[]),by simp<;>omega,hL⟩ (Wk.mk [(0,0),(8,8),(96,96)] [4000] rfl rfl (by simp only [cO,bK,au,rv,go_sem]<;>try simp [hv]) (by simp only [gY,go_sem]<;>try simp [encS]) (by simp only [d9,rv,au,go_sem]<;>simp;omega)) ?_
    rintro ⟨⟨i,b,acc⟩,hi,he⟩ B hB
    simp only at hi he
    simp only [go_sem]
    rcases i with _|i
    ·simp only [iN] at he
     have e2:decide ((0:Int)<((0:Nat):Int))=false:=by simp
     have e3:List.take acc.length (acc.map dx.enc)=acc.map dx.enc:=bB (by simp)
     simp only [e2,go_sem]
     refine iK (tC {fU {bJ.z with kind:=o,bC:=bC} with refs:=acc}) ?_ rfl rfl rfl ?_
     ·simp [au,rv,get,fU,bH.enc,encS,bW]
     simp only [bH.enc,go_sem]
     subst he
     subst hR
     exact Fin.kV _ rfl rfl rfl (by simp [au,rv]) (by simp [ay,au,rv])
    ·have e2:decide ((0:Int)<((i+1:Nat):Int))=true:=by simp<;>omega
     simp only [iN] at he
     have e3:List.take acc.length (acc.map dx.enc)=acc.map dx.enc:=bB (by simp)
     have hm1:acc.length+1<=maxLen:=Nat.le_trans (show acc.length+1<=100 by omega) (by decide)
     have hw:IntKind.i64.wrap (((i+1:Nat):Int) - 1)=((i:Nat):Int):=by rw [bF (by omega)];omega
     simp only [e2,go_sem]
     refine ug (b:=0) (gU l b 6 hl (by omega)) ⟨rfl,⟨rfl,rfl⟩,trivial⟩ rfl rfl rfl rfl ?_
     simp only [go_sem]
     refine Lx (qU l (nN l b 6) [0,0,0,0,2,3,4,5,7] hl (by simp) (by simp)) [0] [5056] (I (pk l (nN l b 6) [0,0,0,0,2,3,4,5,7])) [dO l (nN l (nN l b 6) 9)] [] (by simp [au,rv,dU,get]) (by simp [gJ,au,rv,get]) (by simp [gK,get,isRow,encI]) rfl (by simp [jb,au,rv]) (by simp [jc]) (by simp [rv]) ?_
     simp only [go_sem]
     have b1:=oq l (nN l (nN l b 6) 9) 256
     have b2:=ou l (nN l (nN l b 6) 9) (n:=256) (by omega)
     have zk:IntKind.u8.wrap (nV l (nN l (nN l b 6) 9) 256)=(((nV l (nN l (nN l b 6) 9) 256).toNat.toUInt8.toNat:Nat):Int):=by rw [IntKind.wrap_u8,Dy];omega
     have e4:acc.map dx.enc++[[I (nV l b 6),I (pk l (nN l b 6) [0,0,0,0,2,3,4,5,7]),.sl 1 [[.v (.int .u8 (((nV l (nN l (nN l b 6) 9) 256).toNat.toUInt8.toNat:Nat):Int))]]]]=(acc++[(ny l b).1]).map dx.enc:=by simp [dx.enc,ny,dL]
     refine ug (b:=0) (gU l (nN l (nN l b 6) 9) 256 hl (by omega)) ⟨rfl,⟨rfl,rfl⟩,trivial⟩ rfl rfl rfl rfl ?_
     simp only [zk,e3,hw,List.length_map,go_sem]
     simp only [e4,go_sem]
     repeat (refine bn ?_)
     exact hB _ ⟨(i,nN l (nN l (nN l b 6) 9) 256,acc++[(ny l b).1]),by simp only [List.length_append,List.length_cons,List.length_nil];omega,he⟩ (by simp only;omega) (wk [(0,0),(8,8),(96,96),(4000,5120)] [])
   ·rw [if_neg o5] at hR
    simp only at hR
    simp only [Bool.not_eq_true] at o5
    simp only [o5,go_sem]
    obtain ⟨bC,hv⟩:∃ v:Int,(0:Int)=v:=⟨_,rfl⟩
    replace hR:(let x:=iN l (fe l a3 1 2).toNat (eF l a3 1 2) [];(mF {fU {bJ.z with kind:=o,bC:=bC} with refs:=x.1},x.2))=R:=by subst hv;exact hR
    simp only at hR
    generalize a3=a4 at hR ⊢
    have v1:=Dp l a4 1 2
    have v2:=wH l a4 (lo:=1) (hi:=2) (by omega)
    refine eB (b:=0) (kY l a4 1 2 hl (by omega) (by omega)) ⟨rfl,⟨rfl,rfl⟩,⟨rfl,rfl⟩,trivial⟩ rfl rfl rfl rfl ?_
    simp only [go_sem]
    generalize fe l a4 1 2=v at hR v1 v2 ⊢
    generalize eF l a4 1 2=a5 at hR ⊢
    generalize hL:iN l v.toNat a5 []=L at hR
    refine go_loop (fun x:{x:Nat×Nat×List dx // x.2.2.length+x.1<=2/\iN l x.1 x.2.1 x.2.2=L}=>⟨5000,[(0,.ptr 0 0),(2,.ptr 8 0),(4,.ptr 96 0),(7,I x.1.1)],[(0,.box (dO l x.1.2.1)),(8,.box [I 0,I 0,I 0,I 0,I 0,I 0,I 0,I 0,I 0,Nl,Nl,Nl]),(96,.box [I 3,Z,Z,I o,Z,Z,I bC,Z,Z,Nl,Nl,.own 4000 3 0 x.1.2.2.length]),(4000,.row 164 3 (x.1.2.2.map dx.enc))]⟩) (fun x=>x.1.1) ⟨(v.toNat,a5,[]),by simp<;>omega,hL⟩ (Wk.mk [(0,0),(8,8),(96,96)] [4000] rfl rfl (by simp only [cO,bK,au,rv,go_sem]<;>try simp [hv]) (by simp only [gY,go_sem]<;>try simp [encS]) (by simp only [d9,rv,au,go_sem]<;>simp;omega)) ?_
    rintro ⟨⟨i,b,acc⟩,hi,he⟩ B hB
    simp only at hi he
    simp only [go_sem]
    rcases i with _|i
    ·simp only [iN] at he
     have e2:decide ((0:Int)<((0:Nat):Int))=false:=by simp
     have e3:List.take acc.length (acc.map dx.enc)=acc.map dx.enc:=bB (by simp)
     simp only [e2,go_sem]
     refine iK (tC {fU {bJ.z with kind:=o,bC:=bC} with refs:=acc}) ?_ rfl rfl rfl ?_
     ·simp [au,rv,get,fU,bH.enc,encS,bW]
     simp only [bH.enc,go_sem]
     subst he
     subst hR
     exact Fin.kV _ rfl rfl rfl (by simp [au,rv]) (by simp [ay,au,rv])
    ·have e2:decide ((0:Int)<((i+1:Nat):Int))=true:=by simp<;>omega
     simp only [iN] at he
     have e3:List.take acc.length (acc.map dx.enc)=acc.map dx.enc:=bB (by simp)
     have hm1:acc.length+1<=maxLen:=Nat.le_trans (show acc.length+1<=100 by omega) (by decide)
     have hw:IntKind.i64.wrap (((i+1:Nat):Int) - 1)=((i:Nat):Int):=by rw [bF (by omega)];omega
     simp only [e2,go_sem]
     refine ug (b:=0) (gU l b 6 hl (by omega)) ⟨rfl,⟨rfl,rfl⟩,trivial⟩ rfl rfl rfl rfl ?_
     simp only [go_sem]
     refine Lx (qU l (nN l b 6) [0,0,0,0,2,3,4,5,7] hl (by simp) (by simp)) [0] [5056] (I (pk l (nN l b 6) [0,0,0,0,2,3,4,5,7])) [dO l (nN l (nN l b 6) 9)] [] (by simp [au,rv,dU,get]) (by simp [gJ,au,rv,get]) (by simp [gK,get,isRow,encI]) rfl (by simp [jb,au,rv]) (by simp [jc]) (by simp [rv]) ?_
     simp only [go_sem]
     have b1:=oq l (nN l (nN l b 6) 9) 256
     have b2:=ou l (nN l (nN l b 6) 9) (n:=256) (by omega)
     have zk:IntKind.u8.wrap (nV l (nN l (nN l b 6) 9) 256)=(((nV l (nN l (nN l b 6) 9) 256).toNat.toUInt8.toNat:Nat):Int):=by rw [IntKind.wrap_u8,Dy];omega
     have e4:acc.map dx.enc++[[I (nV l b 6),I (pk l (nN l b 6) [0,0,0,0,2,3,4,5,7]),.sl 1 [[.v (.int .u8 (((nV l (nN l (nN l b 6) 9) 256).toNat.toUInt8.toNat:Nat):Int))]]]]=(acc++[(ny l b).1]).map dx.enc:=by simp [dx.enc,ny,dL]
     refine ug (b:=0) (gU l (nN l (nN l b 6) 9) 256 hl (by omega)) ⟨rfl,⟨rfl,rfl⟩,trivial⟩ rfl rfl rfl rfl ?_
     simp only [zk,e3,hw,List.length_map,go_sem]
     simp only [e4,go_sem]
     repeat (refine bn ?_)
     exact hB _ ⟨(i,nN l (nN l (nN l b 6) 9) 256,acc++[(ny l b).1]),by simp only [List.length_append,List.length_cons,List.length_nil];omega,he⟩ (by simp only;omega) (wk [(0,0),(8,8),(96,96),(4000,5120)] [])
 ·simp only [Int.reduceLT,Int.reduceBEq,Bool.or_false,Bool.or_true,Bool.true_or,Bool.false_or,if_true,if_false,Bool.false_eq_true] at hR
  simp only [go_sem]
  refine eB (b:=0) (gU l a1 4 hl (by omega)) ⟨rfl,⟨rfl,rfl⟩,trivial⟩ rfl rfl rfl rfl ?_
  simp only [go_sem]
  generalize nV l a1 4=slot at hR ⊢
  generalize nN l a1 4=a2 at hR ⊢
  refine xW (qU l a2 [7,7,6,8] hl (by simp) (by simp)) [0] [280] (I (pk l a2 [7,7,6,8])) [dO l (nN l a2 4)] [] (by simp [au,rv,dU,get]) (by simp [gJ,au,rv,get]) (by simp [gK,get,isRow,encI]) rfl (by simp [jb,au,rv]) (by simp [jc]) (by simp [rv]) ?_
  simp only [go_sem]
  refine eB (b:=0) (kY l (nN l a2 4) 1 3 hl (by omega) (by omega)) ⟨rfl,⟨rfl,rfl⟩,⟨rfl,rfl⟩,trivial⟩ rfl rfl rfl rfl ?_
  simp only [go_sem]
  refine iK (tC (fU {bJ.z with kind:=pk l a2 [7,7,6,8],home:=slot,max_:=fe l (nN l a2 4) 1 3})) ?_ rfl rfl rfl ?_
  ·simp [au,rv,get,fU,bH.enc,encS,bW]
  simp only [bH.enc,go_sem]
  subst hR
  exact Fin.kV _ rfl rfl rfl (by simp [au,rv]) (by simp [ay,au,rv])
 ·simp only [Int.reduceLT,Int.reduceBEq,Bool.or_false,Bool.or_true,Bool.true_or,Bool.false_or,if_true,if_false,Bool.false_eq_true] at hR
  simp only [go_sem]
  refine eB (b:=0) (gU l a1 4 hl (by omega)) ⟨rfl,⟨rfl,rfl⟩,trivial⟩ rfl rfl rfl rfl ?_
  simp only [go_sem]
  generalize nV l a1 4=slot at hR ⊢
  generalize nN l a1 4=a2 at hR ⊢
  refine eB (b:=0) (kY l a2 9 11 hl (by omega) (by omega)) ⟨rfl,⟨rfl,rfl⟩,⟨rfl,rfl⟩,trivial⟩ rfl rfl rfl rfl ?_
  simp only [go_sem]
  refine eB (b:=0) (gU l (eF l a2 9 11) 4 hl (by omega)) ⟨rfl,⟨rfl,rfl⟩,trivial⟩ rfl rfl rfl rfl ?_
  simp only [go_sem]
  refine iK (tC (fU {bJ.z with kind:=fe l a2 9 11,bA:=slot,to:=nV l (eF l a2 9 11) 4})) ?_ rfl rfl rfl ?_
  ·simp [au,rv,get,fU,bH.enc,encS,bW]
  simp only [bH.enc,go_sem]
  subst hR
  exact Fin.kV _ rfl rfl rfl (by simp [au,rv]) (by simp [ay,au,rv])
 ·simp only [Int.reduceLT,Int.reduceBEq,Bool.or_false,Bool.or_true,Bool.true_or,Bool.false_or,if_true,if_false,Bool.false_eq_true] at hR
  simp only [go_sem]
  refine eB (b:=0) (gU l a1 4 hl (by omega)) ⟨rfl,⟨rfl,rfl⟩,trivial⟩ rfl rfl rfl rfl ?_
  simp only [go_sem]
  generalize nV l a1 4=slot at hR ⊢
  generalize nN l a1 4=a2 at hR ⊢
  refine eB (b:=0) (kY l a2 12 14 hl (by omega) (by omega)) ⟨rfl,⟨rfl,rfl⟩,⟨rfl,rfl⟩,trivial⟩ rfl rfl rfl rfl ?_
  simp only [go_sem]
  refine eB (b:=0) (gU l (eF l a2 12 14) 5 hl (by omega)) ⟨rfl,⟨rfl,rfl⟩,trivial⟩ rfl rfl rfl rfl ?_
  simp only [go_sem]
  refine iK (tC (fU {bJ.z with kind:=fe l a2 12 14,bA:=nV l (eF l a2 12 14) 5})) ?_ rfl rfl rfl ?_
  ·simp [au,rv,get,fU,bH.enc,encS,bW]
  simp only [bH.enc,go_sem]
  subst hR
  exact Fin.kV _ rfl rfl rfl (by simp [au,rv]) (by simp [ay,au,rv])
theorem amZ (l:List Int) (a n:Nat) (hl:l.length<=4000) (hn:n<=1000):Fn Tryz.prog 19 [.ptr 0 0,I n] [dO l a] (.sl 12 ((oU l n a []).1.map bH.enc)) [dO l (oU l n a []).2] []:=by
 generalize hR:oU l n a []=R
 refine Fn.aO aiO (by simp) ?_
 unfold Qc SC.mk'
 simp only [go_sem]
 refine go_loop (fun x:{x:Nat×Nat×List bH // x.1<=n/\x.2.2.length<=x.1/\oU l (n - x.1) x.2.1 x.2.2=R}=>⟨5000,[(0,.ptr 0 0),(1,I n),(5,.own 4000 12 0 x.1.2.2.length),(6,I x.1.1)],[(0,.box (dO l x.1.2.1)),(4000,.row 118 12 (x.1.2.2.map bH.enc))]⟩) (fun x=>n - x.1.1) ⟨(0,a,[]),by simp,by simp,by simpa using hR⟩ (wk [(0,0)] [4000]) ?_
 rintro ⟨⟨i,b,acc⟩,hi,ha,he⟩ B hB
 simp only at hi ha he
 simp only [go_sem]
 by_cases e1:i<n
 ·have e2:decide ((i:Int)<(n:Int))=true:=by simp;omega
  obtain ⟨k,hk⟩:∃ k,n - i=k+1:=⟨n - i - 1,by omega⟩
  rw [hk] at he
  simp only [oU] at he
  have hw:=bQ (show i<=100000 by omega)
  have e3:List.take acc.length (acc.map bH.enc)=acc.map bH.enc:=bB (by simp)
  have hm1:acc.length+1<=maxLen:=Nat.le_trans (show acc.length+1<=2000 by omega) (by decide)
  simp only [e2,go_sem]
  refine eB (b:=0) (aj8 l b) ⟨rfl,trivial⟩ rfl rfl rfl rfl ?_
  by_cases h3:b<l.length
  ·have h3':decide (b<l.length)=true:=by simpa using h3
   rw [if_pos h3] at he
   simp only [h3',go_sem]
   have hc:=amY l b hl
   generalize rz l b=c at he hc
   refine eB (b:=0) hc ⟨rfl,trivial⟩ rfl rfl rfl rfl ?_
   have e4:acc.map bH.enc++[bH.enc c.1]=(acc++[c.1]).map bH.enc:=by simp
   simp only [bH.enc] at e4
   simp only [bH.enc,e3,e4,hw,List.length_map,go_sem]
   repeat (refine bn ?_)
   have he2:oU l (n - (i+1)) c.2 (acc++[c.1])=R:=by rw [show n - (i+1)=k by omega];exact he
   exact hB _ ⟨(i+1,c.2,acc++[c.1]),by simp only;omega,by simp only [List.length_append,List.length_cons,List.length_nil];omega,he2⟩ (by simp only;omega) (wk [(0,0),(4000,5088)] [])
  ·have h3':decide (b<l.length)=false:=by simpa using h3
   rw [if_neg h3] at he
   simp only [h3',e3,List.length_map,go_sem]
   subst he
   exact Fin.kV _ rfl rfl rfl (by simp [au,rv]) (by simp [ay,au,rv,get])
 ·have e2:decide ((i:Int)<(n:Int))=false:=by simp;omega
  rw [show n - i=0 by omega] at he
  simp only [oU] at he
  have e3:List.take acc.length (acc.map bH.enc)=acc.map bH.enc:=bB (by simp)
  simp only [e2,e3,List.length_map,go_sem]
  subst he
  exact Fin.kV _ rfl rfl rfl (by simp [au,rv]) (by simp [ay,au,rv,get])
end Go.Eng
