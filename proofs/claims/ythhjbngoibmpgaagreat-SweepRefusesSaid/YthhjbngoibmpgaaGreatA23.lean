/-
  Part of a proof: lemmas and definitions of this work.
  No condition.
-/
import Derived.Test.YthhjbngoibmpgaaGreatA08
import Derived.Test.YthhjbngoibmpgaaGreatA22
set_option linter.all false
set_option maxRecDepth 100000
set_option maxHeartbeats 8000000
namespace Go.Eng
open Go Go.Proofs
theorem amB (l:List Int) (a:Nat) (hl:l.length<=4000):Fn Tryz.prog 112 [.ptr 0 0] [dU l a] (.agg (ru l a).1.enc) [dU l (ru l a).2] []:=by
 generalize hR:ru l a=R
 unfold ru at hR
 simp only at hR
 refine Fn.aO aiu (by simp) ?_
 unfold QZ SC.mk'
 simp only [go_sem]
 have kl:=oz l a 20
 have kh:=oC l a (n:=20) (by omega)
 refine d9 (b:=0) (gQ l a 20 hl (by omega)) ⟨rfl,⟨rfl,rfl⟩,trivial⟩ rfl rfl rfl rfl ?_
 generalize nV l a 20=k at hR kl kh ⊢
 generalize nN l a 20=a1 at hR ⊢
 simp only [go_sem]
 by_cases k1:k<9
 ·rw [if_pos k1] at hR
  have k1':decide (k<9)=true:=by simpa using k1
  simp only [k1',go_sem]
  refine d9 (b:=0) (gQ l a1 8 hl (by omega)) ⟨rfl,⟨rfl,rfl⟩,trivial⟩ rfl rfl rfl rfl ?_
  simp only [go_sem]
  refine xZ (qR l (nN l a1 8) [1,1,2,3,5,8,14,30] hl (by simp) (by simp)) [0] [88] (I (pk l (nN l a1 8) [1,1,2,3,5,8,14,30])) [dU l (nN l (nN l a1 8) 8)] [] (by simp [au,rv,dS,get]) (by simp [gH,au,rv,get]) (by simp [gJ,get,isRow,encI]) rfl (by simp [iX,au,rv]) (by simp [iY]) (by simp [rv]) ?_
  simp only [go_sem]
  subst hR
  exact Fin.kR _ rfl rfl rfl (by simp [au,rv]) (by simp [ay,bG.enc,au,rv,encS,bW])
 have hk:k=9\/(k=10\/k=11\/k=12)\/(k=13\/k=14)\/(k=15\/k=16)\/k=17\/k=18\/k=19:=by omega
 clear k1 kl kh
 rcases hk with rfl|hk|hk|hk|rfl|rfl|rfl
 ·simp only [Int.reduceLT,if_true,if_false] at hR
  simp only [go_sem]
  refine xZ (qR l a1 [0,1,3,10,40] hl (by simp) (by simp)) [0] [96] (I (pk l a1 [0,1,3,10,40])) [dU l (nN l a1 5)] [] (by simp [au,rv,dS,get]) (by simp [gH,au,rv,get]) (by simp [gJ,get,isRow,encI]) rfl (by simp [iX,au,rv]) (by simp [iY]) (by simp [rv]) ?_
  simp only [go_sem]
  subst hR
  exact Fin.kR _ rfl rfl rfl (by simp [au,rv]) (by simp [ay,bG.enc,au,rv,encS,bW])
 ·replace hR:(mq (fT {bM.z with kind:=1,bodies:=(xg l (fo l (nN l a1 4) 1 2).toNat (eD l (nN l a1 4) 1 2) []).1}),(xg l (fo l (nN l a1 4) 1 2).toNat (eD l (nN l a1 4) 1 2) []).2)=R:=by
   rcases hk with rfl|rfl|rfl<;>exact hR
  rcases hk with rfl|rfl|rfl
  all_goals
   simp only [go_sem]
   refine d9 (b:=0) (gQ l a1 4 hl (by omega)) ⟨rfl,⟨rfl,rfl⟩,trivial⟩ rfl rfl rfl rfl ?_
   simp only [go_sem]
   generalize nV l a1 4=slot
   generalize nN l a1 4=a2 at hR ⊢
   have v1:=AO l a2 1 2
   have v2:=wF l a2 (lo:=1) (hi:=2) (by omega)
   refine d9 (b:=0) (kU l a2 1 2 hl (by omega) (by omega)) ⟨rfl,⟨rfl,rfl⟩,⟨rfl,rfl⟩,trivial⟩ rfl rfl rfl rfl ?_
   simp only [go_sem]
   generalize fo l a2 1 2=v at hR v1 v2 ⊢
   generalize eD l a2 1 2=a3 at hR ⊢
   generalize hL:xg l v.toNat a3 []=L at hR
   refine go_loop (fun x:{x:Nat×Nat×List ByteArray // x.2.2.length+x.1<=2/\xg l x.1 x.2.1 x.2.2=L}=>⟨5000,[(0,.ptr 0 0),(2,.ptr 8 0),(4,.ptr 96 0),(6,I x.1.1)],[(0,.box (dU l x.1.2.1)),(8,.box [I 0,I 0,I 0,I 0,I 0,I 0,I 0,I 0,I 0,Nl,Nl,Nl]),(96,.box [I 3,Z,Z,I 1,Z,Z,Z,Z,Z,.own 4000 1 0 x.1.2.2.length,Nl,Nl]),(4000,.row 9 1 (encS x.1.2.2))]⟩) (fun x=>x.1.1) ⟨(v.toNat,a3,[]),by simp<;>omega,hL⟩ (Wk.mk [(0,0),(8,8),(96,96)] [4000] rfl rfl (by simp only [cZ,bO,au,rv,go_sem]<;>try simp) (by simp only [gY,go_sem]<;>try simp [encS]) (by simp only [eG,rv,au,go_sem]<;>simp;omega)) ?_
   rintro ⟨⟨i,a4,acc⟩,hi,he⟩ B hB
   simp only at hi he
   simp only [go_sem]
   rcases i with _|i
   ·simp only [xg] at he
    have e2:decide ((0:Int)<((0:Nat):Int))=false:=by simp
    have e3:List.take acc.length (encS acc)=encS acc:=bA (by simp [encS])
    simp only [e2,go_sem]
    refine jk (tJ (fT {bM.z with kind:=1,bodies:=acc})) ?_ rfl rfl rfl ?_
    ·simp [au,rv,get,fT,bG.enc,encS,bW]
    simp only [bG.enc,go_sem]
    subst he
    subst hR
    exact Fin.kR _ rfl rfl rfl (by simp [au,rv]) (by simp [ay,au,rv])
   ·have e2:decide ((0:Int)<((i+1:Nat):Int))=true:=by simp<;>omega
    simp only [xg] at he
    have e3:List.take acc.length (encS acc)=encS acc:=bA (by simp [encS])
    have e4:encS acc++[[.v (.string (Dh l a4))]]=encS (acc++[Dh l a4]):=by simp [encS]
    have hm1:acc.length+1<=maxLen:=Nat.le_trans (show acc.length+1<=100 by omega) (by decide)
    have hw:IntKind.i64.wrap (((i+1:Nat):Int) - 1)=((i:Nat):Int):=by rw [bE (by omega)];omega
    simp only [e2,go_sem]
    refine uh (b:=0) (ajV l a4 hl) ⟨rfl,trivial⟩ rfl rfl rfl rfl ?_
    simp only [e3,e4,hw,dY,go_sem]
    repeat (refine bn ?_)
    exact hB _ ⟨(i,Vx l a4,acc++[Dh l a4]),by simp only [List.length_append,List.length_cons,List.length_nil];omega,he⟩ (by simp only;omega) (wk [(0,0),(8,8),(96,96),(4000,5064)] [])
 ·rcases hk with rfl|rfl
  ·simp only [Int.reduceLT,Int.reduceBEq,Bool.or_false,Bool.or_true,Bool.true_or,Bool.false_or,if_true,if_false,Bool.false_eq_true] at hR
   simp only [go_sem]
   refine d9 (b:=0) (gQ l a1 4 hl (by omega)) ⟨rfl,⟨rfl,rfl⟩,trivial⟩ rfl rfl rfl rfl ?_
   simp only [go_sem]
   generalize nV l a1 4=slot at hR ⊢
   generalize nN l a1 4=a2 at hR ⊢
   refine d9 (b:=0) (kU l a2 1 3 hl (by omega) (by omega)) ⟨rfl,⟨rfl,rfl⟩,⟨rfl,rfl⟩,trivial⟩ rfl rfl rfl rfl ?_
   simp only [go_sem]
   refine xZ (qR l (eD l a2 1 3) [0,1,5,20,100] hl (by simp) (by simp)) [0] [240] (I (pk l (eD l a2 1 3) [0,1,5,20,100])) [dU l (nN l (eD l a2 1 3) 5)] [] (by simp [au,rv,dS,get]) (by simp [gH,au,rv,get]) (by simp [gJ,get,isRow,encI]) rfl (by simp [iX,au,rv]) (by simp [iY]) (by simp [rv]) ?_
   simp only [go_sem]
   refine jk (tJ (fT {bM.z with kind:=2,home:=slot,max_:=fo l a2 1 3,bB:=pk l (eD l a2 1 3) [0,1,5,20,100]})) ?_ rfl rfl rfl ?_
   ·simp [au,rv,get,fT,bG.enc,encS,bW]
   simp only [bG.enc,go_sem]
   subst hR
   exact Fin.kR _ rfl rfl rfl (by simp [au,rv]) (by simp [ay,au,rv])
  ·simp only [Int.reduceLT,Int.reduceBEq,Bool.or_false,Bool.or_true,Bool.true_or,Bool.false_or,if_true,if_false,Bool.false_eq_true] at hR
   simp only [go_sem]
   refine d9 (b:=0) (gQ l a1 4 hl (by omega)) ⟨rfl,⟨rfl,rfl⟩,trivial⟩ rfl rfl rfl rfl ?_
   simp only [go_sem]
   generalize nV l a1 4=slot at hR ⊢
   generalize nN l a1 4=a2 at hR ⊢
   refine d9 (b:=0) (kU l a2 1 3 hl (by omega) (by omega)) ⟨rfl,⟨rfl,rfl⟩,⟨rfl,rfl⟩,trivial⟩ rfl rfl rfl rfl ?_
   simp only [go_sem]
   refine xZ (qR l (eD l a2 1 3) [0,1,5,20,100] hl (by simp) (by simp)) [0] [256] (I (pk l (eD l a2 1 3) [0,1,5,20,100])) [dU l (nN l (eD l a2 1 3) 5)] [] (by simp [au,rv,dS,get]) (by simp [gH,au,rv,get]) (by simp [gJ,get,isRow,encI]) rfl (by simp [iX,au,rv]) (by simp [iY]) (by simp [rv]) ?_
   simp only [go_sem]
   refine jk (tJ (fT {bM.z with kind:=2,home:=slot,max_:=fo l a2 1 3,bB:=pk l (eD l a2 1 3) [0,1,5,20,100]})) ?_ rfl rfl rfl ?_
   ·simp [au,rv,get,fT,bG.enc,encS,bW]
   simp only [bG.enc,go_sem]
   subst hR
   exact Fin.kR _ rfl rfl rfl (by simp [au,rv]) (by simp [ay,au,rv])
 ·replace hR:(let o:=fo l (nN l a1 4) 3 5
   let a3:=eD l (nN l a1 4) 3 5
   let v:Int×Nat:=if o==5 then (pk l a3 [0,1,10,50],nN l a3 4) else (0,a3)
   let x:=iM l (fo l v.2 1 2).toNat (eD l v.2 1 2) []
   (mq {fT {bM.z with kind:=o,bB:=v.1} with refs:=x.1},x.2))=R:=by
   rcases hk with rfl|rfl<;>exact hR
  simp only at hR
  rcases hk with rfl|rfl
  ·simp only [go_sem]
   refine d9 (b:=0) (gQ l a1 4 hl (by omega)) ⟨rfl,⟨rfl,rfl⟩,trivial⟩ rfl rfl rfl rfl ?_
   simp only [go_sem]
   generalize nV l a1 4=slot
   generalize nN l a1 4=a2 at hR ⊢
   refine d9 (b:=0) (kU l a2 3 5 hl (by omega) (by omega)) ⟨rfl,⟨rfl,rfl⟩,⟨rfl,rfl⟩,trivial⟩ rfl rfl rfl rfl ?_
   simp only [go_sem]
   generalize fo l a2 3 5=o at hR ⊢
   generalize eD l a2 3 5=a3 at hR ⊢
   by_cases o5:(o==5)=true
   ·rw [if_pos o5] at hR
    simp only at hR
    simp only [o5,go_sem]
    refine xZ (qR l a3 [0,1,10,50] hl (by simp) (by simp)) [0] [320] (I (pk l a3 [0,1,10,50])) [dU l (nN l a3 4)] [] (by simp [au,rv,dS,get]) (by simp [gH,au,rv,get]) (by simp [gJ,get,isRow,encI]) rfl (by simp [iX,au,rv]) (by simp [iY]) (by simp [rv]) ?_
    simp only [go_sem]
    generalize pk l a3 [0,1,10,50]=bB at hR ⊢
    generalize nN l a3 4=a4 at hR ⊢
    have hv:True:=trivial
    have v1:=AO l a4 1 2
    have v2:=wF l a4 (lo:=1) (hi:=2) (by omega)
    refine d9 (b:=0) (kU l a4 1 2 hl (by omega) (by omega)) ⟨rfl,⟨rfl,rfl⟩,⟨rfl,rfl⟩,trivial⟩ rfl rfl rfl rfl ?_
    simp only [go_sem]
    generalize fo l a4 1 2=v at hR v1 v2 ⊢
    generalize eD l a4 1 2=a5 at hR ⊢
    generalize hL:iM l v.toNat a5 []=L at hR
    refine go_loop (fun x:{x:Nat×Nat×List dw // x.2.2.length+x.1<=2/\iM l x.1 x.2.1 x.2.2=L}=>⟨5000,[(0,.ptr 0 0),(2,.ptr 8 0),(4,.ptr 96 0),(7,I x.1.1)],[(0,.box (dU l x.1.2.1)),(8,.box [I 0,I 0,I 0,I 0,I 0,I 0,I 0,I 0,I 0,Nl,Nl,Nl]),(96,.box [I 3,Z,Z,I o,Z,Z,I bB,Z,Z,Nl,Nl,.own 4000 3 0 x.1.2.2.length]),(4000,.row 256 3 (x.1.2.2.map dw.enc))]⟩) (fun x=>x.1.1) ⟨(v.toNat,a5,[]),by simp<;>omega,hL⟩ (Wk.mk [(0,0),(8,8),(96,96)] [4000] rfl rfl (by simp only [cZ,bO,au,rv,go_sem]<;>try simp [hv]) (by simp only [gY,go_sem]<;>try simp [encS]) (by simp only [eG,rv,au,go_sem]<;>simp;omega)) ?_
    rintro ⟨⟨i,b,acc⟩,hi,he⟩ B hB
    simp only at hi he
    simp only [go_sem]
    rcases i with _|i
    ·simp only [iM] at he
     have e2:decide ((0:Int)<((0:Nat):Int))=false:=by simp
     have e3:List.take acc.length (acc.map dw.enc)=acc.map dw.enc:=bA (by simp)
     simp only [e2,go_sem]
     refine jk (tJ {fT {bM.z with kind:=o,bB:=bB} with refs:=acc}) ?_ rfl rfl rfl ?_
     ·simp [au,rv,get,fT,bG.enc,encS,bW]
     simp only [bG.enc,go_sem]
     subst he
     subst hR
     exact Fin.kR _ rfl rfl rfl (by simp [au,rv]) (by simp [ay,au,rv])
    ·have e2:decide ((0:Int)<((i+1:Nat):Int))=true:=by simp<;>omega
     simp only [iM] at he
     have e3:List.take acc.length (acc.map dw.enc)=acc.map dw.enc:=bA (by simp)
     have hm1:acc.length+1<=maxLen:=Nat.le_trans (show acc.length+1<=100 by omega) (by decide)
     have hw:IntKind.i64.wrap (((i+1:Nat):Int) - 1)=((i:Nat):Int):=by rw [bE (by omega)];omega
     simp only [e2,go_sem]
     refine uh (b:=0) (gQ l b 6 hl (by omega)) ⟨rfl,⟨rfl,rfl⟩,trivial⟩ rfl rfl rfl rfl ?_
     simp only [go_sem]
     refine Ig (qR l (nN l b 6) [0,0,0,0,2,3,4,5,7] hl (by simp) (by simp)) [0] [5056] (I (pk l (nN l b 6) [0,0,0,0,2,3,4,5,7])) [dU l (nN l (nN l b 6) 9)] [] (by simp [au,rv,dS,get]) (by simp [gH,au,rv,get]) (by simp [gJ,get,isRow,encI]) rfl (by simp [iX,au,rv]) (by simp [iY]) (by simp [rv]) ?_
     simp only [go_sem]
     have b1:=oz l (nN l (nN l b 6) 9) 256
     have b2:=oC l (nN l (nN l b 6) 9) (n:=256) (by omega)
     have zq:IntKind.u8.wrap (nV l (nN l (nN l b 6) 9) 256)=(((nV l (nN l (nN l b 6) 9) 256).toNat.toUInt8.toNat:Nat):Int):=by rw [IntKind.wrap_u8,A7];omega
     have e4:acc.map dw.enc++[[I (nV l b 6),I (pk l (nN l b 6) [0,0,0,0,2,3,4,5,7]),.sl 1 [[.v (.int .u8 (((nV l (nN l (nN l b 6) 9) 256).toNat.toUInt8.toNat:Nat):Int))]]]]=(acc++[(nk l b).1]).map dw.enc:=by simp [dw.enc,nk,dL]
     refine uh (b:=0) (gQ l (nN l (nN l b 6) 9) 256 hl (by omega)) ⟨rfl,⟨rfl,rfl⟩,trivial⟩ rfl rfl rfl rfl ?_
     simp only [zq,e3,hw,List.length_map,go_sem]
     simp only [e4,go_sem]
     repeat (refine bn ?_)
     exact hB _ ⟨(i,nN l (nN l (nN l b 6) 9) 256,acc++[(nk l b).1]),by simp only [List.length_append,List.length_cons,List.length_nil];omega,he⟩ (by simp only;omega) (wk [(0,0),(8,8),(96,96),(4000,5120)] [])
   ·rw [if_neg o5] at hR
    simp only at hR
    simp only [Bool.not_eq_true] at o5
    simp only [o5,go_sem]
    obtain ⟨bB,hv⟩:∃ v:Int,(0:Int)=v:=⟨_,rfl⟩
    replace hR:(let x:=iM l (fo l a3 1 2).toNat (eD l a3 1 2) [];(mq {fT {bM.z with kind:=o,bB:=bB} with refs:=x.1},x.2))=R:=by subst hv;exact hR
    simp only at hR
    generalize a3=a4 at hR ⊢
    have v1:=AO l a4 1 2
    have v2:=wF l a4 (lo:=1) (hi:=2) (by omega)
    refine d9 (b:=0) (kU l a4 1 2 hl (by omega) (by omega)) ⟨rfl,⟨rfl,rfl⟩,⟨rfl,rfl⟩,trivial⟩ rfl rfl rfl rfl ?_
    simp only [go_sem]
    generalize fo l a4 1 2=v at hR v1 v2 ⊢
    generalize eD l a4 1 2=a5 at hR ⊢
    generalize hL:iM l v.toNat a5 []=L at hR
    refine go_loop (fun x:{x:Nat×Nat×List dw // x.2.2.length+x.1<=2/\iM l x.1 x.2.1 x.2.2=L}=>⟨5000,[(0,.ptr 0 0),(2,.ptr 8 0),(4,.ptr 96 0),(7,I x.1.1)],[(0,.box (dU l x.1.2.1)),(8,.box [I 0,I 0,I 0,I 0,I 0,I 0,I 0,I 0,I 0,Nl,Nl,Nl]),(96,.box [I 3,Z,Z,I o,Z,Z,I bB,Z,Z,Nl,Nl,.own 4000 3 0 x.1.2.2.length]),(4000,.row 256 3 (x.1.2.2.map dw.enc))]⟩) (fun x=>x.1.1) ⟨(v.toNat,a5,[]),by simp<;>omega,hL⟩ (Wk.mk [(0,0),(8,8),(96,96)] [4000] rfl rfl (by simp only [cZ,bO,au,rv,go_sem]<;>try simp [hv]) (by simp only [gY,go_sem]<;>try simp [encS]) (by simp only [eG,rv,au,go_sem]<;>simp;omega)) ?_
    rintro ⟨⟨i,b,acc⟩,hi,he⟩ B hB
    simp only at hi he
    simp only [go_sem]
    rcases i with _|i
    ·simp only [iM] at he
     have e2:decide ((0:Int)<((0:Nat):Int))=false:=by simp
     have e3:List.take acc.length (acc.map dw.enc)=acc.map dw.enc:=bA (by simp)
     simp only [e2,go_sem]
     refine jk (tJ {fT {bM.z with kind:=o,bB:=bB} with refs:=acc}) ?_ rfl rfl rfl ?_
     ·simp [au,rv,get,fT,bG.enc,encS,bW]
     simp only [bG.enc,go_sem]
     subst he
     subst hR
     exact Fin.kR _ rfl rfl rfl (by simp [au,rv]) (by simp [ay,au,rv])
    ·have e2:decide ((0:Int)<((i+1:Nat):Int))=true:=by simp<;>omega
     simp only [iM] at he
     have e3:List.take acc.length (acc.map dw.enc)=acc.map dw.enc:=bA (by simp)
     have hm1:acc.length+1<=maxLen:=Nat.le_trans (show acc.length+1<=100 by omega) (by decide)
     have hw:IntKind.i64.wrap (((i+1:Nat):Int) - 1)=((i:Nat):Int):=by rw [bE (by omega)];omega
     simp only [e2,go_sem]
     refine uh (b:=0) (gQ l b 6 hl (by omega)) ⟨rfl,⟨rfl,rfl⟩,trivial⟩ rfl rfl rfl rfl ?_
     simp only [go_sem]
     refine Ig (qR l (nN l b 6) [0,0,0,0,2,3,4,5,7] hl (by simp) (by simp)) [0] [5056] (I (pk l (nN l b 6) [0,0,0,0,2,3,4,5,7])) [dU l (nN l (nN l b 6) 9)] [] (by simp [au,rv,dS,get]) (by simp [gH,au,rv,get]) (by simp [gJ,get,isRow,encI]) rfl (by simp [iX,au,rv]) (by simp [iY]) (by simp [rv]) ?_
     simp only [go_sem]
     have b1:=oz l (nN l (nN l b 6) 9) 256
     have b2:=oC l (nN l (nN l b 6) 9) (n:=256) (by omega)
     have zq:IntKind.u8.wrap (nV l (nN l (nN l b 6) 9) 256)=(((nV l (nN l (nN l b 6) 9) 256).toNat.toUInt8.toNat:Nat):Int):=by rw [IntKind.wrap_u8,A7];omega
     have e4:acc.map dw.enc++[[I (nV l b 6),I (pk l (nN l b 6) [0,0,0,0,2,3,4,5,7]),.sl 1 [[.v (.int .u8 (((nV l (nN l (nN l b 6) 9) 256).toNat.toUInt8.toNat:Nat):Int))]]]]=(acc++[(nk l b).1]).map dw.enc:=by simp [dw.enc,nk,dL]
     refine uh (b:=0) (gQ l (nN l (nN l b 6) 9) 256 hl (by omega)) ⟨rfl,⟨rfl,rfl⟩,trivial⟩ rfl rfl rfl rfl ?_
     simp only [zq,e3,hw,List.length_map,go_sem]
     simp only [e4,go_sem]
     repeat (refine bn ?_)
     exact hB _ ⟨(i,nN l (nN l (nN l b 6) 9) 256,acc++[(nk l b).1]),by simp only [List.length_append,List.length_cons,List.length_nil];omega,he⟩ (by simp only;omega) (wk [(0,0),(8,8),(96,96),(4000,5120)] [])
  ·simp only [go_sem]
   refine d9 (b:=0) (gQ l a1 4 hl (by omega)) ⟨rfl,⟨rfl,rfl⟩,trivial⟩ rfl rfl rfl rfl ?_
   simp only [go_sem]
   generalize nV l a1 4=slot
   generalize nN l a1 4=a2 at hR ⊢
   refine d9 (b:=0) (kU l a2 3 5 hl (by omega) (by omega)) ⟨rfl,⟨rfl,rfl⟩,⟨rfl,rfl⟩,trivial⟩ rfl rfl rfl rfl ?_
   simp only [go_sem]
   generalize fo l a2 3 5=o at hR ⊢
   generalize eD l a2 3 5=a3 at hR ⊢
   by_cases o5:(o==5)=true
   ·rw [if_pos o5] at hR
    simp only at hR
    simp only [o5,go_sem]
    refine xZ (qR l a3 [0,1,10,50] hl (by simp) (by simp)) [0] [336] (I (pk l a3 [0,1,10,50])) [dU l (nN l a3 4)] [] (by simp [au,rv,dS,get]) (by simp [gH,au,rv,get]) (by simp [gJ,get,isRow,encI]) rfl (by simp [iX,au,rv]) (by simp [iY]) (by simp [rv]) ?_
    simp only [go_sem]
    generalize pk l a3 [0,1,10,50]=bB at hR ⊢
    generalize nN l a3 4=a4 at hR ⊢
    have hv:True:=trivial
    have v1:=AO l a4 1 2
    have v2:=wF l a4 (lo:=1) (hi:=2) (by omega)
    refine d9 (b:=0) (kU l a4 1 2 hl (by omega) (by omega)) ⟨rfl,⟨rfl,rfl⟩,⟨rfl,rfl⟩,trivial⟩ rfl rfl rfl rfl ?_
    simp only [go_sem]
    generalize fo l a4 1 2=v at hR v1 v2 ⊢
    generalize eD l a4 1 2=a5 at hR ⊢
    generalize hL:iM l v.toNat a5 []=L at hR
    refine go_loop (fun x:{x:Nat×Nat×List dw // x.2.2.length+x.1<=2/\iM l x.1 x.2.1 x.2.2=L}=>⟨5000,[(0,.ptr 0 0),(2,.ptr 8 0),(4,.ptr 96 0),(7,I x.1.1)],[(0,.box (dU l x.1.2.1)),(8,.box [I 0,I 0,I 0,I 0,I 0,I 0,I 0,I 0,I 0,Nl,Nl,Nl]),(96,.box [I 3,Z,Z,I o,Z,Z,I bB,Z,Z,Nl,Nl,.own 4000 3 0 x.1.2.2.length]),(4000,.row 256 3 (x.1.2.2.map dw.enc))]⟩) (fun x=>x.1.1) ⟨(v.toNat,a5,[]),by simp<;>omega,hL⟩ (Wk.mk [(0,0),(8,8),(96,96)] [4000] rfl rfl (by simp only [cZ,bO,au,rv,go_sem]<;>try simp [hv]) (by simp only [gY,go_sem]<;>try simp [encS]) (by simp only [eG,rv,au,go_sem]<;>simp;omega)) ?_
    rintro ⟨⟨i,b,acc⟩,hi,he⟩ B hB
    simp only at hi he
    simp only [go_sem]
    rcases i with _|i
    ·simp only [iM] at he
     have e2:decide ((0:Int)<((0:Nat):Int))=false:=by simp
     have e3:List.take acc.length (acc.map dw.enc)=acc.map dw.enc:=bA (by simp)
     simp only [e2,go_sem]
     refine jk (tJ {fT {bM.z with kind:=o,bB:=bB} with refs:=acc}) ?_ rfl rfl rfl ?_
     ·simp [au,rv,get,fT,bG.enc,encS,bW]
     simp only [bG.enc,go_sem]
     subst he
     subst hR
     exact Fin.kR _ rfl rfl rfl (by simp [au,rv]) (by simp [ay,au,rv])
    ·have e2:decide ((0:Int)<((i+1:Nat):Int))=true:=by simp<;>omega
     simp only [iM] at he
     have e3:List.take acc.length (acc.map dw.enc)=acc.map dw.enc:=bA (by simp)
     have hm1:acc.length+1<=maxLen:=Nat.le_trans (show acc.length+1<=100 by omega) (by decide)
     have hw:IntKind.i64.wrap (((i+1:Nat):Int) - 1)=((i:Nat):Int):=by rw [bE (by omega)];omega
     simp only [e2,go_sem]
     refine uh (b:=0) (gQ l b 6 hl (by omega)) ⟨rfl,⟨rfl,rfl⟩,trivial⟩ rfl rfl rfl rfl ?_
     simp only [go_sem]
     refine Ig (qR l (nN l b 6) [0,0,0,0,2,3,4,5,7] hl (by simp) (by simp)) [0] [5056] (I (pk l (nN l b 6) [0,0,0,0,2,3,4,5,7])) [dU l (nN l (nN l b 6) 9)] [] (by simp [au,rv,dS,get]) (by simp [gH,au,rv,get]) (by simp [gJ,get,isRow,encI]) rfl (by simp [iX,au,rv]) (by simp [iY]) (by simp [rv]) ?_
     simp only [go_sem]
     have b1:=oz l (nN l (nN l b 6) 9) 256
     have b2:=oC l (nN l (nN l b 6) 9) (n:=256) (by omega)
     have zq:IntKind.u8.wrap (nV l (nN l (nN l b 6) 9) 256)=(((nV l (nN l (nN l b 6) 9) 256).toNat.toUInt8.toNat:Nat):Int):=by rw [IntKind.wrap_u8,A7];omega
     have e4:acc.map dw.enc++[[I (nV l b 6),I (pk l (nN l b 6) [0,0,0,0,2,3,4,5,7]),.sl 1 [[.v (.int .u8 (((nV l (nN l (nN l b 6) 9) 256).toNat.toUInt8.toNat:Nat):Int))]]]]=(acc++[(nk l b).1]).map dw.enc:=by simp [dw.enc,nk,dL]
     refine uh (b:=0) (gQ l (nN l (nN l b 6) 9) 256 hl (by omega)) ⟨rfl,⟨rfl,rfl⟩,trivial⟩ rfl rfl rfl rfl ?_
     simp only [zq,e3,hw,List.length_map,go_sem]
     simp only [e4,go_sem]
     repeat (refine bn ?_)
     exact hB _ ⟨(i,nN l (nN l (nN l b 6) 9) 256,acc++[(nk l b).1]),by simp only [List.length_append,List.length_cons,List.length_nil];omega,he⟩ (by simp only;omega) (wk [(0,0),(8,8),(96,96),(4000,5120)] [])
   ·rw [if_neg o5] at hR
    simp only at hR
    simp only [Bool.not_eq_true] at o5
    simp only [o5,go_sem]
    obtain ⟨bB,hv⟩:∃ v:Int,(0:Int)=v:=⟨_,rfl⟩
    replace hR:(let x:=iM l (fo l a3 1 2).toNat (eD l a3 1 2) [];(mq {fT {bM.z with kind:=o,bB:=bB} with refs:=x.1},x.2))=R:=by subst hv;exact hR
    simp only at hR
    generalize a3=a4 at hR ⊢
    have v1:=AO l a4 1 2
    have v2:=wF l a4 (lo:=1) (hi:=2) (by omega)
    refine d9 (b:=0) (kU l a4 1 2 hl (by omega) (by omega)) ⟨rfl,⟨rfl,rfl⟩,⟨rfl,rfl⟩,trivial⟩ rfl rfl rfl rfl ?_
    simp only [go_sem]
    generalize fo l a4 1 2=v at hR v1 v2 ⊢
    generalize eD l a4 1 2=a5 at hR ⊢
    generalize hL:iM l v.toNat a5 []=L at hR
    refine go_loop (fun x:{x:Nat×Nat×List dw // x.2.2.length+x.1<=2/\iM l x.1 x.2.1 x.2.2=L}=>⟨5000,[(0,.ptr 0 0),(2,.ptr 8 0),(4,.ptr 96 0),(7,I x.1.1)],[(0,.box (dU l x.1.2.1)),(8,.box [I 0,I 0,I 0,I 0,I 0,I 0,I 0,I 0,I 0,Nl,Nl,Nl]),(96,.box [I 3,Z,Z,I o,Z,Z,I bB,Z,Z,Nl,Nl,.own 4000 3 0 x.1.2.2.length]),(4000,.row 256 3 (x.1.2.2.map dw.enc))]⟩) (fun x=>x.1.1) ⟨(v.toNat,a5,[]),by simp<;>omega,hL⟩ (Wk.mk [(0,0),(8,8),(96,96)] [4000] rfl rfl (by simp only [cZ,bO,au,rv,go_sem]<;>try simp [hv]) (by simp only [gY,go_sem]<;>try simp [encS]) (by simp only [eG,rv,au,go_sem]<;>simp;omega)) ?_
    rintro ⟨⟨i,b,acc⟩,hi,he⟩ B hB
    simp only at hi he
    simp only [go_sem]
    rcases i with _|i
    ·simp only [iM] at he
     have e2:decide ((0:Int)<((0:Nat):Int))=false:=by simp
     have e3:List.take acc.length (acc.map dw.enc)=acc.map dw.enc:=bA (by simp)
     simp only [e2,go_sem]
     refine jk (tJ {fT {bM.z with kind:=o,bB:=bB} with refs:=acc}) ?_ rfl rfl rfl ?_
     ·simp [au,rv,get,fT,bG.enc,encS,bW]
     simp only [bG.enc,go_sem]
     subst he
     subst hR
     exact Fin.kR _ rfl rfl rfl (by simp [au,rv]) (by simp [ay,au,rv])
    ·have e2:decide ((0:Int)<((i+1:Nat):Int))=true:=by simp<;>omega
     simp only [iM] at he
     have e3:List.take acc.length (acc.map dw.enc)=acc.map dw.enc:=bA (by simp)
     have hm1:acc.length+1<=maxLen:=Nat.le_trans (show acc.length+1<=100 by omega) (by decide)
     have hw:IntKind.i64.wrap (((i+1:Nat):Int) - 1)=((i:Nat):Int):=by rw [bE (by omega)];omega
     simp only [e2,go_sem]
     refine uh (b:=0) (gQ l b 6 hl (by omega)) ⟨rfl,⟨rfl,rfl⟩,trivial⟩ rfl rfl rfl rfl ?_
     simp only [go_sem]
     refine Ig (qR l (nN l b 6) [0,0,0,0,2,3,4,5,7] hl (by simp) (by simp)) [0] [5056] (I (pk l (nN l b 6) [0,0,0,0,2,3,4,5,7])) [dU l (nN l (nN l b 6) 9)] [] (by simp [au,rv,dS,get]) (by simp [gH,au,rv,get]) (by simp [gJ,get,isRow,encI]) rfl (by simp [iX,au,rv]) (by simp [iY]) (by simp [rv]) ?_
     simp only [go_sem]
     have b1:=oz l (nN l (nN l b 6) 9) 256
     have b2:=oC l (nN l (nN l b 6) 9) (n:=256) (by omega)
     have zq:IntKind.u8.wrap (nV l (nN l (nN l b 6) 9) 256)=(((nV l (nN l (nN l b 6) 9) 256).toNat.toUInt8.toNat:Nat):Int):=by rw [IntKind.wrap_u8,A7];omega
     have e4:acc.map dw.enc++[[I (nV l b 6),I (pk l (nN l b 6) [0,0,0,0,2,3,4,5,7]),.sl 1 [[.v (.int .u8 (((nV l (nN l (nN l b 6) 9) 256).toNat.toUInt8.toNat:Nat):Int))]]]]=(acc++[(nk l b).1]).map dw.enc:=by simp [dw.enc,nk,dL]
     refine uh (b:=0) (gQ l (nN l (nN l b 6) 9) 256 hl (by omega)) ⟨rfl,⟨rfl,rfl⟩,trivial⟩ rfl rfl rfl rfl ?_
     simp only [zq,e3,hw,List.length_map,go_sem]
     simp only [e4,go_sem]
     repeat (refine bn ?_)
     exact hB _ ⟨(i,nN l (nN l (nN l b 6) 9) 256,acc++[(nk l b).1]),by simp only [List.length_append,List.length_cons,List.length_nil];omega,he⟩ (by simp only;omega) (wk [(0,0),(8,8),(96,96),(4000,5120)] [])
 ·simp only [Int.reduceLT,Int.reduceBEq,Bool.or_false,Bool.or_true,Bool.true_or,Bool.false_or,if_true,if_false,Bool.false_eq_true] at hR
  simp only [go_sem]
  refine d9 (b:=0) (gQ l a1 4 hl (by omega)) ⟨rfl,⟨rfl,rfl⟩,trivial⟩ rfl rfl rfl rfl ?_
  simp only [go_sem]
  generalize nV l a1 4=slot at hR ⊢
  generalize nN l a1 4=a2 at hR ⊢
  refine xZ (qR l a2 [7,7,6,8] hl (by simp) (by simp)) [0] [280] (I (pk l a2 [7,7,6,8])) [dU l (nN l a2 4)] [] (by simp [au,rv,dS,get]) (by simp [gH,au,rv,get]) (by simp [gJ,get,isRow,encI]) rfl (by simp [iX,au,rv]) (by simp [iY]) (by simp [rv]) ?_
  simp only [go_sem]
  refine d9 (b:=0) (kU l (nN l a2 4) 1 3 hl (by omega) (by omega)) ⟨rfl,⟨rfl,rfl⟩,⟨rfl,rfl⟩,trivial⟩ rfl rfl rfl rfl ?_
  simp only [go_sem]
  refine jk (tJ (fT {bM.z with kind:=pk l a2 [7,7,6,8],home:=slot,max_:=fo l (nN l a2 4) 1 3})) ?_ rfl rfl rfl ?_
  ·simp [au,rv,get,fT,bG.enc,encS,bW]
  simp only [bG.enc,go_sem]
  subst hR
  exact Fin.kR _ rfl rfl rfl (by simp [au,rv]) (by simp [ay,au,rv])
 ·simp only [Int.reduceLT,Int.reduceBEq,Bool.or_false,Bool.or_true,Bool.true_or,Bool.false_or,if_true,if_false,Bool.false_eq_true] at hR
  simp only [go_sem]
  refine d9 (b:=0) (gQ l a1 4 hl (by omega)) ⟨rfl,⟨rfl,rfl⟩,trivial⟩ rfl rfl rfl rfl ?_
  simp only [go_sem]
  generalize nV l a1 4=slot at hR ⊢
  generalize nN l a1 4=a2 at hR ⊢
  refine d9 (b:=0) (kU l a2 9 11 hl (by omega) (by omega)) ⟨rfl,⟨rfl,rfl⟩,⟨rfl,rfl⟩,trivial⟩ rfl rfl rfl rfl ?_
  simp only [go_sem]
  refine d9 (b:=0) (gQ l (eD l a2 9 11) 4 hl (by omega)) ⟨rfl,⟨rfl,rfl⟩,trivial⟩ rfl rfl rfl rfl ?_
  simp only [go_sem]
  refine jk (tJ (fT {bM.z with kind:=fo l a2 9 11,bq:=slot,to:=nV l (eD l a2 9 11) 4})) ?_ rfl rfl rfl ?_
  ·simp [au,rv,get,fT,bG.enc,encS,bW]
  simp only [bG.enc,go_sem]
  subst hR
  exact Fin.kR _ rfl rfl rfl (by simp [au,rv]) (by simp [ay,au,rv])
 ·simp only [Int.reduceLT,Int.reduceBEq,Bool.or_false,Bool.or_true,Bool.true_or,Bool.false_or,if_true,if_false,Bool.false_eq_true] at hR
  simp only [go_sem]
  refine d9 (b:=0) (gQ l a1 4 hl (by omega)) ⟨rfl,⟨rfl,rfl⟩,trivial⟩ rfl rfl rfl rfl ?_
  simp only [go_sem]
  generalize nV l a1 4=slot at hR ⊢
  generalize nN l a1 4=a2 at hR ⊢
  refine d9 (b:=0) (kU l a2 12 14 hl (by omega) (by omega)) ⟨rfl,⟨rfl,rfl⟩,⟨rfl,rfl⟩,trivial⟩ rfl rfl rfl rfl ?_
  simp only [go_sem]
  refine d9 (b:=0) (gQ l (eD l a2 12 14) 5 hl (by omega)) ⟨rfl,⟨rfl,rfl⟩,trivial⟩ rfl rfl rfl rfl ?_
  simp only [go_sem]
  refine jk (tJ (fT {bM.z with kind:=fo l a2 12 14,bq:=nV l (eD l a2 12 14) 5})) ?_ rfl rfl rfl ?_
  ·simp [au,rv,get,fT,bG.enc,encS,bW]
  simp only [bG.enc,go_sem]
  subst hR
  exact Fin.kR _ rfl rfl rfl (by simp [au,rv]) (by simp [ay,au,rv])
theorem amC (l:List Int) (a n:Nat) (hl:l.length<=4000) (hn:n<=1000):Fn Tryz.prog 48 [.ptr 0 0,I n] [dU l a] (.sl 12 ((oZ l n a []).1.map bG.enc)) [dU l (oZ l n a []).2] []:=by
 generalize hR:oZ l n a []=R
 refine Fn.aO aik (by simp) ?_
 unfold Qm SC.mk'
 simp only [go_sem]
 refine go_loop (fun x:{x:Nat×Nat×List bG // x.1<=n/\x.2.2.length<=x.1/\oZ l (n - x.1) x.2.1 x.2.2=R}=>⟨5000,[(0,.ptr 0 0),(1,I n),(5,.own 4000 12 0 x.1.2.2.length),(6,I x.1.1)],[(0,.box (dU l x.1.2.1)),(4000,.row 196 12 (x.1.2.2.map bG.enc))]⟩) (fun x=>n - x.1.1) ⟨(0,a,[]),by simp,by simp,by simpa using hR⟩ (wk [(0,0)] [4000]) ?_
 rintro ⟨⟨i,b,acc⟩,hi,ha,he⟩ B hB
 simp only at hi ha he
 simp only [go_sem]
 by_cases e1:i<n
 ·have e2:decide ((i:Int)<(n:Int))=true:=by simp;omega
  obtain ⟨k,hk⟩:∃ k,n - i=k+1:=⟨n - i - 1,by omega⟩
  rw [hk] at he
  simp only [oZ] at he
  have hw:=bT (show i<=100000 by omega)
  have e3:List.take acc.length (acc.map bG.enc)=acc.map bG.enc:=bA (by simp)
  have hm1:acc.length+1<=maxLen:=Nat.le_trans (show acc.length+1<=2000 by omega) (by decide)
  simp only [e2,go_sem]
  refine d9 (b:=0) (ajL l b) ⟨rfl,trivial⟩ rfl rfl rfl rfl ?_
  by_cases h3:b<l.length
  ·have h3':decide (b<l.length)=true:=by simpa using h3
   rw [if_pos h3] at he
   simp only [h3',go_sem]
   have hc:=amB l b hl
   generalize ru l b=c at he hc
   refine d9 (b:=0) hc ⟨rfl,trivial⟩ rfl rfl rfl rfl ?_
   have e4:acc.map bG.enc++[bG.enc c.1]=(acc++[c.1]).map bG.enc:=by simp
   simp only [bG.enc] at e4
   simp only [bG.enc,e3,e4,hw,List.length_map,go_sem]
   repeat (refine bn ?_)
   have he2:oZ l (n - (i+1)) c.2 (acc++[c.1])=R:=by rw [show n - (i+1)=k by omega];exact he
   exact hB _ ⟨(i+1,c.2,acc++[c.1]),by simp only;omega,by simp only [List.length_append,List.length_cons,List.length_nil];omega,he2⟩ (by simp only;omega) (wk [(0,0),(4000,5088)] [])
  ·have h3':decide (b<l.length)=false:=by simpa using h3
   rw [if_neg h3] at he
   simp only [h3',e3,List.length_map,go_sem]
   subst he
   exact Fin.kR _ rfl rfl rfl (by simp [au,rv]) (by simp [ay,au,rv,get])
 ·have e2:decide ((i:Int)<(n:Int))=false:=by simp;omega
  rw [show n - i=0 by omega] at he
  simp only [oZ] at he
  have e3:List.take acc.length (acc.map bG.enc)=acc.map bG.enc:=bA (by simp)
  simp only [e2,e3,List.length_map,go_sem]
  subst he
  exact Fin.kR _ rfl rfl rfl (by simp [au,rv]) (by simp [ay,au,rv,get])
end Go.Eng
