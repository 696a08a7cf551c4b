/-
  Part of a proof: lemmas and definitions of this work.
  No condition.
-/
import Derived.Test.YthhjbngoibmpgaaGreatA08
import Derived.Test.YthhjbngoibmpgaaGreatA20
set_option linter.all false
set_option maxRecDepth 100000
set_option maxHeartbeats 8000000
namespace Go.Eng
open Go Go.Proofs
theorem acQ (d:Dir):∀ (l:List Span) (next:Int),0<=next->lH d l next=0->∀ x ∈ l,0<=x.low/\x.low<=x.high/\x.high<65536
 |[],next,_,_=>by simp
 |x::r,next,hn,h=>by
  simp only [lH] at h
  split at h
  ·omega
  ·rename_i hc
   simp at hc
   intro y hy
   rcases List.mem_cons.1 hy with rfl|hy
   ·omega
   ·exact acQ d r (x.high+1) (by omega) h y hy
theorem amh {l:List Span} {i:Nat} (h:i<l.length):gS l i ∈ l:=by
 unfold gS;rw [List.getElem?_eq_getElem h];exact List.getElem_mem h
theorem mS (x:Span):Span.enc x=[I x.low,I x.high,I x.eT]:=rfl
theorem WC (l:List Int) (k:Nat) (x:Int):(encI l).set k [I x]=encI (l.set k x):=(List.map_set (f:=fun z=>[I z]) ..).symm
theorem ami (d:Dir) (e:bL) (hl:d.l.length<=69000):Fn Tryz.prog 119 [.agg d.enc,.agg e.enc] [] (.aF [.agg (d.apply e).1.enc,I (d.apply e).2]) [] []:=by
 generalize hR:d.apply e=R
 unfold Dir.apply at hR
 refine Fn.aO aiw (by simp) ?_
 unfold Q7 SC.mk' Dir.enc bL.enc
 simp only [go_sem]
 by_cases h0:d.val≠0
 ·rw [if_pos h0] at hR
  have h0':(d.val !=0)=true:=by simpa using h0
  refine aQ (zk d (by omega)) rfl rfl ?_
  simp only [h0',go_sem]
  exact Fin.aD _ rfl rfl (by rw [<-hR];simp only [ay,rv,au,get,Dir.enc,encI,List.map_nil,go_sem])
 rw [if_neg h0] at hR
 have g1:d.val=0:=by simpa using h0
 have hp:=Dir.oU g1
 have amj:=acQ d d.l 0 (by omega) hp.1
 have hdv:1<=d.version/\d.version<=1099511627776/\1<=d.aM.length/\d.aM.length<=6:=by
  have hv:=g1
  unfold Dir.val at hv
  split at hv
  ·omega
  ·rename_i hc;simp at hc;omega
 refine aQ (zk d (by omega)) rfl rfl ?_
 simp only [g1,aS,go_sem]
 by_cases h1:(d.version==1099511627776)=true
 ·rw [if_pos h1] at hR
  simp only [h1,go_sem]
  exact Fin.aD _ rfl rfl (by rw [<-hR];simp only [ay,rv,au,get,Dir.enc,encI,List.map_nil,go_sem])
 rw [if_neg h1] at hR
 have h1n:d.version≠1099511627776:=by simpa using h1
 simp only [Bool.not_eq_true] at h1
 simp only [h1,go_sem]
 by_cases h2:(e.kind !=1&&e.kind !=2)=true
 ·rw [if_pos h2] at hR
  simp only [Bool.and_eq_true] at h2
  simp only [h2.1,h2.2,go_sem]
  exact Fin.aD _ rfl rfl (by rw [<-hR];simp only [ay,rv,au,get,Dir.enc,encI,List.map_nil,go_sem])
 rw [if_neg h2] at hR
 by_cases h3:e.bq<0\/(d.aM.length:Int)<=e.bq\/e.to<0\/(d.aM.length:Int)<=e.to
 ·rw [if_pos (by simpa using h3)] at hR
  by_cases hk:e.kind=1
  ·have k1:(e.kind !=1)=false:=by simp [hk]
   simp only [k1,go_sem]
   exact aX
  ·have k1:(e.kind !=1)=true:=by simpa using hk
   have k2:(e.kind !=2)=false:=by simpa [k1] using h2
   simp only [k1,k2,go_sem]
   exact aX
 have i1:¬ e.bq<0:=fun h=>h3 (.inl h)
 have i2:¬ (d.aM.length:Int)<=e.bq:=fun h=>h3 (.inr (.inl h))
 have i3:¬ e.to<0:=fun h=>h3 (.inr (.inr (.inl h)))
 have i4:¬ (d.aM.length:Int)<=e.to:=fun h=>h3 (.inr (.inr (.inr h)))
 rw [if_neg (by simp [i1,i2,i3,i4])] at hR
 simp only at hR
 have hw:IntKind.i64.wrap (d.version+1)=d.version+1:=bE (by omega)
 have hm:d.aM.length<=maxLen:=Nat.le_trans (show _<=300000 by omega) (by decide)
 by_cases hk:e.kind=1
 ·have k1:(e.kind !=1)=false:=by simp [hk]
  have k2:(e.kind==1)=true:=by simp [hk]
  rw [if_pos k2] at hR
  simp only [k1,i1,i2,i3,i4,go_sem]
  refine bX (xk d e.bq (by omega)) rfl rfl ?_
  simp only [go_sem]
  refine bX (xk d e.to (by omega)) rfl rfl ?_
  simp only [hw,aS,k2,go_sem]
  repeat (refine bn ?_)
  rcases NH d e.bq with h4|⟨i,h4,h5⟩
  ·rw [if_pos (by simp [h4])] at hR
   simp only [h4,go_sem]
   exact Fin.aD _ rfl rfl (by rw [<-hR];simp only [ay,rv,au,get,Dir.enc,encI,List.map_nil,go_sem])
  have h6:¬ (i:Int)<0:=by omega
  by_cases h7:0<=d.idx e.to
  ·rw [if_pos (by simp [h7])] at hR
   simp only [h4,h6,h7,go_sem]
   exact Fin.aD _ rfl rfl (by rw [<-hR];simp only [ay,rv,au,get,Dir.enc,encI,List.map_nil,go_sem])
  rw [if_neg (by rw [h4];simp [h6,h7]),h4,Int.toNat_natCast] at hR
  have hy:nth (d.l.map Span.enc) i=Span.enc (gS d.l i):=bS Span.enc Span.z h5
  have hsp:=amj _ (amh h5)
  generalize gS d.l i=s at hR hy hsp
  simp only [h4,h6,h7,hy,mS,Int.toNat_natCast,List.length_map,go_sem]
  repeat (refine bn ?_)
  by_cases h8:e.mid<s.low
  ·rw [if_pos (by simp [h8])] at hR
   simp only [h8,go_sem]
   exact Fin.aD _ rfl rfl (by rw [<-hR];simp only [ay,rv,au,get,Dir.enc,encI,List.map_nil,go_sem])
  by_cases h9:s.high<=e.mid
  ·rw [if_pos (by simp [h9])] at hR
   simp only [h8,h9,go_sem]
   exact Fin.aD _ rfl rfl (by rw [<-hR];simp only [ay,rv,au,get,Dir.enc,encI,List.map_nil,go_sem])
  rw [if_neg (by simp [h8,h9])] at hR
  have w1:IntKind.i64.wrap (e.mid+1)=e.mid+1:=bE (by omega)
  have w2:=bT (show i<=100000 by omega)
  have m1:i<=maxLen:=Nat.le_trans (show _<=300000 by omega) (by decide)
  have m2:i+2<=maxLen:=Nat.le_trans (show _<=300000 by omega) (by decide)
  have m3:i+2+(d.l.length - (i+1))<=maxLen:=Nat.le_trans (show _<=300000 by omega) (by decide)
  have zm:min i d.l.length=i:=Nat.min_eq_left (by omega)
  have e6:List.map Span.enc (List.take i (List.take i d.l))++[[I s.low,I e.mid,I e.bq],[I (e.mid+1),I s.high,I e.to]]=(d.l.take i++[(⟨s.low,e.mid,e.bq⟩:Span),⟨e.mid+1,s.high,e.to⟩]).map Span.enc:=by
   rw [List.take_take,Nat.min_self,List.map_append];rfl
  have e8:(d.l.take i++[(⟨s.low,e.mid,e.bq⟩:Span),⟨e.mid+1,s.high,e.to⟩]).length=i+2:=by simp;omega
  generalize hL:d.l.take i++[(⟨s.low,e.mid,e.bq⟩:Span),⟨e.mid+1,s.high,e.to⟩]=L at e6 e8
  have hR2:((⟨d.version+1,L++d.l.drop (i+1),d.aM.set e.to.toNat (-1)⟩:Dir),(0:Int))=R:=by rw [<-hR,<-hL];simp
  simp only [h8,h9,w1,w2,Int.toNat_natCast,iB,iG,List.length_map,List.length_take,List.length_drop,List.take_length,zm,Nat.min_self,go_sem]
  repeat (refine bn ?_)
  have c1:¬ i+2<=i:=by omega
  simp only [c1,e6,e8,w2,Int.toNat_natCast,iB,iG,List.take_length,List.length_drop,List.length_map,if_false,go_sem]
  repeat (refine bn ?_)
  have e9:List.take (i+2) L=L:=bA (by omega)
  have e10:List.drop (i+2) L=[]:=List.drop_eq_nil_of_le (by omega)
  have hfx:nth (encI d.aM) e.to.toNat=[I (gI d.aM e.to.toNat)]:=bS (fun z=>[I z]) 0 (by omega)
  have fs:(encI d.aM).set e.to.toNat [I (-1)]=encI (d.aM.set e.to.toNat (-1)):=WC ..
  have ft:List.take d.aM.length (encI d.aM)=encI d.aM:=bA (by rw [aS];omega)
  have xq:List.take d.aM.length (encI (d.aM.set e.to.toNat (-1)))=encI (d.aM.set e.to.toNat (-1)):=bA (by rw [aS];simp)
  by_cases hc:i+2+(d.l.length - (i+1))<=i+2
  ·have hk2:d.l.length - (i+1)=0:=by omega
   have e7:List.drop (i+1) d.l=[]:=List.drop_eq_nil_of_le (by omega)
   rw [e7,List.append_nil] at hR2
   have rA:List.take (i+2) (L.map Span.enc)=L.map Span.enc:=bA (by simp [e8])
   simp only [e7,hk2,e8,e9,e10,Nat.add_zero,Nat.le_refl,List.map_nil,List.nil_append,List.append_nil,iB,iG,kX,fs,ft,hfx,List.tail_cons,aS,List.length_map,if_true,go_sem]
   repeat (refine bn ?_)
   exact Fin.aD _ rfl rfl (by rw [<-hR2];simp only [ay,rv,au,get,Dir.enc,aS,List.length_set,List.length_map,e8,xq,rA,go_sem];simp)
  ·have rA:List.take (i+2+(d.l.length - (i+1))) ((L++d.l.drop (i+1)).map Span.enc)=(L++d.l.drop (i+1)).map Span.enc:=bA (by simp [e8])
   simp only [hc,e8,e9,iB,iG,kX,fs,ft,hfx,List.tail_cons,aS,List.length_map,if_false,go_sem]
   repeat (refine bn ?_)
   exact Fin.aD _ rfl rfl (by rw [<-hR2];simp only [ay,rv,au,get,Dir.enc,aS,List.length_set,List.length_map,List.length_append,List.length_drop,e8,xq,rA,go_sem];simp)
 have k1:(e.kind !=1)=true:=by simpa using hk
 have k2:(e.kind !=2)=false:=by simpa [k1] using h2
 have k3:(e.kind==1)=false:=by simpa using hk
 rw [if_neg (by simp [k3])] at hR
 simp only [k1,k2,i1,i2,i3,i4,go_sem]
 refine bX (xk d e.bq (by omega)) rfl rfl ?_
 simp only [go_sem]
 refine bX (xk d e.to (by omega)) rfl rfl ?_
 simp only [hw,aS,k3,go_sem]
 repeat (refine bn ?_)
 rcases NH d e.bq with h4|⟨i,h4,h5⟩
 ·rw [if_pos (by simp [h4])] at hR
  simp only [h4,go_sem]
  exact Fin.aD _ rfl rfl (by rw [<-hR];simp only [ay,rv,au,get,Dir.enc,encI,List.map_nil,go_sem])
 have h6:¬ (i:Int)<0:=by omega
 rcases NH d e.to with h7|⟨k,h7,h8⟩
 ·rw [if_pos (by simp [h7])] at hR
  simp only [h4,h6,h7,go_sem]
  exact Fin.aD _ rfl rfl (by rw [<-hR];simp only [ay,rv,au,get,Dir.enc,encI,List.map_nil,go_sem])
 have h9:¬ (k:Int)<0:=by omega
 have v1:IntKind.i64.wrap ((i:Int) - k)=(i:Int) - k:=bE (by omega)
 have v2:IntKind.i64.wrap ((k:Int) - i)=(k:Int) - i:=bE (by omega)
 rw [h4,h7] at hR
 by_cases j1:((i:Int) - k !=1&&(k:Int) - i !=1)=true
 ·rw [if_pos (by simp only [j1,Bool.or_true])] at hR
  simp only [Bool.and_eq_true] at j1
  simp only [h4,h6,h7,h9,v1,v2,j1.1,j1.2,go_sem]
  exact Fin.aD _ rfl rfl (by rw [<-hR];simp only [ay,rv,au,get,Dir.enc,encI,List.map_nil,go_sem])
 rw [if_neg (by simp only [j1,h6,h9,decide_false,Bool.false_or,Bool.or_false];simp)] at hR
 have j3:(i:Int) - k=1\/(k:Int) - i=1:=by
  simp only [Bool.and_eq_true,bne_iff_ne] at j1;omega
 have hf1:min (i:Int) k=((min i k:Nat):Int):=by omega
 have hf2:min i k+1<d.l.length:=by omega
 rw [hf1,Int.toNat_natCast] at hR
 by_cases j2:((i:Int) - k !=1)=true
 ·have j4:((k:Int) - i !=1)=false:=by simpa [j2] using j1
  simp only [h4,h6,h7,h9,v1,v2,j2,j4,hf1,go_sem]
  generalize min i k=f at hR hf2
  (
   have hy:nth (d.l.map Span.enc) f=Span.enc (gS d.l f):=bS Span.enc Span.z (by omega)
   have hy2:nth (d.l.map Span.enc) (f+1)=Span.enc (gS d.l (f+1)):=bS Span.enc Span.z hf2
   generalize gS d.l f=s at hR hy
   generalize gS d.l (f+1)=s2 at hR hy2
   have w1:=bT (show f<=100000 by omega)
   have w2:IntKind.i64.wrap ((f:Int)+2)=((f+2:Nat):Int):=by rw [bE (by omega)];omega
   have m1:f<=maxLen:=Nat.le_trans (show _<=300000 by omega) (by decide)
   have m2:f+1<=maxLen:=Nat.le_trans (show _<=300000 by omega) (by decide)
   have m3:f+1+(d.l.length - (f+2))<=maxLen:=Nat.le_trans (show _<=300000 by omega) (by decide)
   have zm:min f d.l.length=f:=Nat.min_eq_left (by omega)
   have e6:List.map Span.enc (List.take f (List.take f d.l))++[[I s.low,I s2.high,I e.to]]=(d.l.take f++[(⟨s.low,s2.high,e.to⟩:Span)]).map Span.enc:=by
    rw [List.take_take,Nat.min_self,List.map_append];rfl
   have e8:(d.l.take f++[(⟨s.low,s2.high,e.to⟩:Span)]).length=f+1:=by simp;omega
   generalize hL:d.l.take f++[(⟨s.low,s2.high,e.to⟩:Span)]=L at e6 e8
   have hR2:((⟨d.version+1,L++d.l.drop (f+2),d.aM.set e.bq.toNat e.to⟩:Dir),(0:Int))=R:=by rw [<-hR,<-hL];simp
   have e9:List.take (f+1) L=L:=bA (by omega)
   have e10:List.drop (f+1) L=[]:=List.drop_eq_nil_of_le (by omega)
   have hfx:nth (encI d.aM) e.bq.toNat=[I (gI d.aM e.bq.toNat)]:=bS (fun z=>[I z]) 0 (by omega)
   have fs:(encI d.aM).set e.bq.toNat [I e.to]=encI (d.aM.set e.bq.toNat e.to):=WC ..
   have ft:List.take d.aM.length (encI d.aM)=encI d.aM:=bA (by rw [aS];omega)
   have xq:List.take d.aM.length (encI (d.aM.set e.bq.toNat e.to))=encI (d.aM.set e.bq.toNat e.to):=bA (by rw [aS];simp)
   simp only [hy,hy2,mS,w1,w2,e6,e8,Int.toNat_natCast,iB,iG,List.length_map,List.length_take,List.length_drop,List.take_length,zm,Nat.min_self,go_sem]
   repeat (refine bn ?_)
   by_cases hc:f+1+(d.l.length - (f+2))<=f+1
   ·have hk2:d.l.length - (f+2)=0:=by omega
    have e7:List.drop (f+2) d.l=[]:=List.drop_eq_nil_of_le (by omega)
    rw [e7,List.append_nil] at hR2
    have rA:List.take (f+1) (L.map Span.enc)=L.map Span.enc:=bA (by simp [e8])
    simp only [e7,hk2,e8,e9,e10,Nat.add_zero,Nat.le_refl,List.map_nil,List.nil_append,List.append_nil,iB,iG,kX,fs,ft,hfx,List.tail_cons,aS,List.length_map,if_true,go_sem]
    repeat (refine bn ?_)
    exact Fin.aD _ rfl rfl (by rw [<-hR2];simp only [ay,rv,au,get,Dir.enc,aS,List.length_set,List.length_map,e8,xq,rA,go_sem];simp)
   ·have rA:List.take (f+1+(d.l.length - (f+2))) ((L++d.l.drop (f+2)).map Span.enc)=(L++d.l.drop (f+2)).map Span.enc:=bA (by simp [e8])
    simp only [hc,e8,e9,iB,iG,kX,fs,ft,hfx,List.tail_cons,aS,List.length_map,if_false,go_sem]
    repeat (refine bn ?_)
    exact Fin.aD _ rfl rfl (by rw [<-hR2];simp only [ay,rv,au,get,Dir.enc,aS,List.length_set,List.length_map,List.length_append,List.length_drop,e8,xq,rA,go_sem];simp))
 ·simp only [Bool.not_eq_true] at j2
  simp only [h4,h6,h7,h9,v1,v2,j2,hf1,go_sem]
  generalize min i k=f at hR hf2
  (
   have hy:nth (d.l.map Span.enc) f=Span.enc (gS d.l f):=bS Span.enc Span.z (by omega)
   have hy2:nth (d.l.map Span.enc) (f+1)=Span.enc (gS d.l (f+1)):=bS Span.enc Span.z hf2
   generalize gS d.l f=s at hR hy
   generalize gS d.l (f+1)=s2 at hR hy2
   have w1:=bT (show f<=100000 by omega)
   have w2:IntKind.i64.wrap ((f:Int)+2)=((f+2:Nat):Int):=by rw [bE (by omega)];omega
   have m1:f<=maxLen:=Nat.le_trans (show _<=300000 by omega) (by decide)
   have m2:f+1<=maxLen:=Nat.le_trans (show _<=300000 by omega) (by decide)
   have m3:f+1+(d.l.length - (f+2))<=maxLen:=Nat.le_trans (show _<=300000 by omega) (by decide)
   have zm:min f d.l.length=f:=Nat.min_eq_left (by omega)
   have e6:List.map Span.enc (List.take f (List.take f d.l))++[[I s.low,I s2.high,I e.to]]=(d.l.take f++[(⟨s.low,s2.high,e.to⟩:Span)]).map Span.enc:=by
    rw [List.take_take,Nat.min_self,List.map_append];rfl
   have e8:(d.l.take f++[(⟨s.low,s2.high,e.to⟩:Span)]).length=f+1:=by simp;omega
   generalize hL:d.l.take f++[(⟨s.low,s2.high,e.to⟩:Span)]=L at e6 e8
   have hR2:((⟨d.version+1,L++d.l.drop (f+2),d.aM.set e.bq.toNat e.to⟩:Dir),(0:Int))=R:=by rw [<-hR,<-hL];simp
   have e9:List.take (f+1) L=L:=bA (by omega)
   have e10:List.drop (f+1) L=[]:=List.drop_eq_nil_of_le (by omega)
   have hfx:nth (encI d.aM) e.bq.toNat=[I (gI d.aM e.bq.toNat)]:=bS (fun z=>[I z]) 0 (by omega)
   have fs:(encI d.aM).set e.bq.toNat [I e.to]=encI (d.aM.set e.bq.toNat e.to):=WC ..
   have ft:List.take d.aM.length (encI d.aM)=encI d.aM:=bA (by rw [aS];omega)
   have xq:List.take d.aM.length (encI (d.aM.set e.bq.toNat e.to))=encI (d.aM.set e.bq.toNat e.to):=bA (by rw [aS];simp)
   simp only [hy,hy2,mS,w1,w2,e6,e8,Int.toNat_natCast,iB,iG,List.length_map,List.length_take,List.length_drop,List.take_length,zm,Nat.min_self,go_sem]
   repeat (refine bn ?_)
   by_cases hc:f+1+(d.l.length - (f+2))<=f+1
   ·have hk2:d.l.length - (f+2)=0:=by omega
    have e7:List.drop (f+2) d.l=[]:=List.drop_eq_nil_of_le (by omega)
    rw [e7,List.append_nil] at hR2
    have rA:List.take (f+1) (L.map Span.enc)=L.map Span.enc:=bA (by simp [e8])
    simp only [e7,hk2,e8,e9,e10,Nat.add_zero,Nat.le_refl,List.map_nil,List.nil_append,List.append_nil,iB,iG,kX,fs,ft,hfx,List.tail_cons,aS,List.length_map,if_true,go_sem]
    repeat (refine bn ?_)
    exact Fin.aD _ rfl rfl (by rw [<-hR2];simp only [ay,rv,au,get,Dir.enc,aS,List.length_set,List.length_map,e8,xq,rA,go_sem];simp)
   ·have rA:List.take (f+1+(d.l.length - (f+2))) ((L++d.l.drop (f+2)).map Span.enc)=(L++d.l.drop (f+2)).map Span.enc:=bA (by simp [e8])
    simp only [hc,e8,e9,iB,iG,kX,fs,ft,hfx,List.tail_cons,aS,List.length_map,if_false,go_sem]
    repeat (refine bn ?_)
    exact Fin.aD _ rfl rfl (by rw [<-hR2];simp only [ay,rv,au,get,Dir.enc,aS,List.length_set,List.length_map,List.length_append,List.length_drop,e8,xq,rA,go_sem];simp))
theorem WE (n:Int):Fn Tryz.prog 375 [I n] [] (Bo (cN n)) [] []:=by
 refine Fn.aO aja (by simp) ?_
 unfold UQ SC.mk'
 simp only [go_sem]
 have hJ:=trivial
 repeat' first
  |(first|refine sC ?_|refine sD ?_);simp only [hJ,go_sem]
  |(first|refine bC (fun hq=> ?_) (fun hq=> ?_)|refine dR (fun hq=> ?_) (fun hq=> ?_)|refine dD (fun hq=> ?_) (fun hq=> ?_))<;>simp only [hq,hJ,go_sem]
  |refine sM ?_;simp only [ay,rv,au,get,hJ,go_sem]
  |refine bn ?_
  |fail
 all_goals clear hJ
 all_goals (simp_all [cN,-Int.not_lt,-Int.not_le]<;>omega)
theorem WG (a:Int): -1<=a.tmod 2/\a.tmod 2<=1:=⟨by have:=Int.lt_tmod_of_pos a (show (0:Int)<2 by decide);omega,by have:=Int.tmod_lt_of_pos a (show (0:Int)<2 by decide);omega⟩
theorem amk (s:aJ):Fn Tryz.prog 274 [.agg s.enc] [] (.aF [.agg s.begin.1.enc,I s.begin.2]) [] []:=by
 generalize hR:s.begin=R
 unfold aJ.begin at hR
 refine Fn.aO TF (by simp) ?_
 unfold TD SC.mk' aJ.enc
 simp only [go_sem]
 have ht:=WG s.seq
 have hw:IntKind.i64.wrap (s.seq.tmod 2)=s.seq.tmod 2:=bE (by omega)
 by_cases h1:s.seq<0\/1099511627776<s.seq
 ·rw [if_pos (by simpa using h1)] at hR
  exact aX
 have hw2:IntKind.i64.wrap (s.seq+1)=s.seq+1:=bE (by omega)
 rw [if_neg (by simpa using h1)] at hR
 have hJ:=ah hw (ah hw2 @u6)
 exact aZ
theorem acR (s:aJ) (x:ak) (ep li:Int) (hx:x.sm):Fn Tryz.prog 283 [.agg s.enc,.agg x.enc,I ep,I li] [] (.aF [.agg (s.done x ep li).1.enc,I (s.done x ep li).2]) [] []:=by
 generalize hR:s.done x ep li=R
 unfold aJ.done at hR
 refine Fn.aO TV (by simp) ?_
 unfold TU SC.mk' aJ.enc ak.enc
 simp only [go_sem]
 have ht:=WG s.seq
 have hw:IntKind.i64.wrap (s.seq.tmod 2)=s.seq.tmod 2:=bE (by omega)
 by_cases h1:s.seq<0\/1099511627776<s.seq
 ·rw [if_pos (by simpa using h1)] at hR
  exact aX
 have hw2:IntKind.i64.wrap (s.seq+1)=s.seq+1:=bE (by omega)
 rw [if_neg (by simpa using h1)] at hR
 have aK:=zi x hx
 have aU:=al7 x ep li hx
 have hJ:=ah hw (ah hw2 @u6)
 exact aZ
theorem mT (x:aJ):aJ.enc x=[I x.seq,I x.epoch,I x.ready,I x.eF]:=rfl
theorem aml (l:List aJ) (hl:l.length<=1000):Fn Tryz.prog 28 [.sl 4 (l.map aJ.enc)] [] (Bo (Bd l)) [] []:=by
 generalize hR:Bd l=R
 refine Fn.aO aij (by simp) ?_
 unfold Qe SC.mk'
 simp only [go_sem]
 refine go_loop (fun j:{j:Nat // j<=l.length/\Bd (l.drop j)=R}=>⟨1000,[(0,.sl 4 (l.map aJ.enc)),(3,I j.1)],[]⟩) (fun j=>l.length - j.1) ⟨0,by omega,hR⟩ (wk [] []) ?_
 rintro ⟨j,hj,he⟩ B hB
 simp only [go_sem]
 by_cases e1:j<l.length
 ·have e2:decide ((j:Int)<(l.length:Int))=true:=by simp;omega
  rw [eB aJ.z e1] at he
  simp only [Bd,List.all_cons,show l[j]?.getD aJ.z=iZ l j from rfl] at he
  have hx:nth (l.map aJ.enc) j=aJ.enc (iZ l j):=bS aJ.enc aJ.z e1
  have hw:=bT (show j<=100000 by omega)
  generalize iZ l j=x at hx he
  have ht:=WG x.seq
  have hw3:IntKind.i64.wrap (x.seq.tmod 2)=x.seq.tmod 2:=bE (by omega)
  simp only [e2,hx,hw3,mT,u6,List.length_map,Int.toNat_natCast,go_sem]
  repeat (refine bn ?_)
  by_cases e3:(x.seq.tmod 2 !=0)=true
  ·have e4:(x.seq.tmod 2==0)=false:=by simpa using e3
   simp only [e4,Bool.false_and] at he
   simp only [e3,go_sem]
   exact Fin.aD _ rfl rfl (by rw [<-he];rfl)
  ·have e4:(x.seq.tmod 2==0)=true:=by simpa using e3
   simp only [e4,Bool.true_and] at he
   simp only [Bool.not_eq_true] at e3
   simp only [e3,hw,go_sem]
   exact hB _ ⟨j+1,by omega,he⟩ (by simp only;omega) (wk [] [])
 ·have e2:decide ((j:Int)<(l.length:Int))=false:=by simp;omega
  rw [eH (by omega)] at he
  simp only [e2,go_sem]
  exact Fin.aD _ rfl rfl (by rw [<-he];rfl)
theorem amm (l:List aJ) (ep:Int) (hl:l.length<=1000):Fn Tryz.prog 317 [.sl 4 (l.map aJ.enc),I ep] [] (.aF [I (tq ep l 0 0).1,I (tq ep l 0 0).2]) [] []:=by
 generalize hR:tq ep l 0 0=R
 refine Fn.aO aiY (by simp) ?_
 unfold Uj SC.mk'
 simp only [go_sem]
 refine go_loop (fun x:{x:Nat×Int×Int // x.1<=l.length/\tq ep (l.drop x.1) x.2.1 x.2.2=R}=>⟨1000,[(0,.sl 4 (l.map aJ.enc)),(1,I ep),(6,I x.1.2.1),(7,I x.1.2.2),(8,I x.1.1)],[]⟩) (fun x=>l.length - x.1.1) ⟨(0,0,0),by omega,hR⟩ (wk [] []) ?_
 rintro ⟨⟨j,p,q⟩,hj,he⟩ B hB
 simp only at hj he
 simp only [go_sem]
 by_cases e1:j<l.length
 ·have e2:decide ((j:Int)<(l.length:Int))=true:=by simp;omega
  rw [eB aJ.z e1] at he
  simp only [tq,show l[j]?.getD aJ.z=iZ l j from rfl] at he
  have hx:nth (l.map aJ.enc) j=aJ.enc (iZ l j):=bS aJ.enc aJ.z e1
  have hw:=bT (show j<=100000 by omega)
  generalize iZ l j=x at hx he
  simp only [e2,hx,mT,List.length_map,Int.toNat_natCast,go_sem]
  repeat (refine bn ?_)
  by_cases e3:(x.epoch==ep)=true
  ·simp only [e3,hx,mT,List.length_map,Int.toNat_natCast,go_sem]
   repeat (refine bn ?_)
   refine aQ (WE x.seq) rfl rfl ?_
   simp only [go_sem]
   by_cases e4:cN x.seq=true
   ·simp only [e4,hx,mT,List.length_map,Int.toNat_natCast,go_sem]
    repeat (refine bn ?_)
    refine aQ (WE x.ready) rfl rfl ?_
    simp only [go_sem]
    by_cases e5:cN x.ready=true
    ·simp only [e5,hx,mT,List.length_map,Int.toNat_natCast,go_sem]
     repeat (refine bn ?_)
     refine aQ (WE x.eF) rfl rfl ?_
     simp only [go_sem]
     by_cases e6:cN x.eF=true
     ·simp only [e3,e4,e5,e6,Bool.and_self,if_true] at he
      simp only [e6,hx,hw,mT,List.length_map,Int.toNat_natCast,go_sem]
      repeat (refine bn ?_)
      generalize IntKind.i64.wrap (p+x.ready)=p' at he ⊢
      generalize IntKind.i64.wrap (q+x.eF)=q' at he ⊢
      exact hB _ ⟨(j+1,p',q'),by simp only;omega,he⟩ (by simp only;omega) (wk [] [])
     ·simp only [Bool.not_eq_true] at e6
      simp only [e3,e4,e5,e6,Bool.and_false,Bool.false_eq_true,if_false] at he
      simp only [e6,hw,go_sem]
      exact hB _ ⟨(j+1,p,q),by simp only;omega,he⟩ (by simp only;omega) (wk [] [])
    ·simp only [Bool.not_eq_true] at e5
     simp only [e3,e4,e5,Bool.and_false,Bool.false_and,Bool.false_eq_true,if_false] at he
     simp only [e5,hw,go_sem]
     exact hB _ ⟨(j+1,p,q),by simp only;omega,he⟩ (by simp only;omega) (wk [] [])
   ·simp only [Bool.not_eq_true] at e4
    simp only [e3,e4,Bool.and_false,Bool.false_and,Bool.false_eq_true,if_false] at he
    simp only [e4,hw,go_sem]
    exact hB _ ⟨(j+1,p,q),by simp only;omega,he⟩ (by simp only;omega) (wk [] [])
  ·simp only [Bool.not_eq_true] at e3
   simp only [e3,Bool.false_and,Bool.false_eq_true,if_false] at he
   simp only [e3,hw,go_sem]
   exact hB _ ⟨(j+1,p,q),by simp only;omega,he⟩ (by simp only;omega) (wk [] [])
 ·have e2:decide ((j:Int)<(l.length:Int))=false:=by simp;omega
  rw [eH (by omega)] at he
  simp only [tq] at he
  simp only [e2,go_sem]
  exact Fin.aD _ rfl rfl (by rw [<-he];simp only [ay,rv,au,go_sem])
theorem acS:∀ (a b:List aJ),a.length≠b.length->uX a b=false
 |[],[],h=>absurd rfl h
 |[],_::_,_=>rfl
 |_::_,[],_=>rfl
 |x::a,y::b,h=>by simp only [uX];rw [acS a b (by simpa using h),Bool.and_false]
theorem amn (a b:List aJ) (hl:a.length<=1000):Fn Tryz.prog 55 [.sl 4 (a.map aJ.enc),.sl 4 (b.map aJ.enc)] [] (Bo (uX a b)) [] []:=by
 generalize hR:uX a b=R
 refine Fn.aO ail (by simp) ?_
 unfold Qp SC.mk'
 simp only [go_sem]
 by_cases h0:a.length≠b.length
 ·rw [acS a b h0] at hR
  have h0':((a.length:Int) !=(b.length:Int))=true:=by simp;omega
  simp only [List.length_map,h0',go_sem]
  exact Fin.aD _ rfl rfl (by rw [<-hR];rfl)
 have h0e:a.length=b.length:=by simpa using h0
 have h0':((a.length:Int) !=(b.length:Int))=false:=by simp;omega
 simp only [List.length_map,h0',go_sem]
 refine go_loop (fun j:{j:Nat // j<=a.length/\uX (a.drop j) (b.drop j)=R}=>⟨1000,[(0,.sl 4 (a.map aJ.enc)),(1,.sl 4 (b.map aJ.enc)),(5,I j.1)],[]⟩) (fun j=>a.length - j.1) ⟨0,by omega,hR⟩ (wk [] []) ?_
 rintro ⟨j,hj,he⟩ B hB
 simp only [go_sem]
 by_cases e1:j<a.length
 ·have e2:decide ((j:Int)<(a.length:Int))=true:=by simp;omega
  rw [eB aJ.z e1,eB aJ.z (show j<b.length by omega)] at he
  simp only [uX,show a[j]?.getD aJ.z=iZ a j from rfl,show b[j]?.getD aJ.z=iZ b j from rfl] at he
  have hx:nth (a.map aJ.enc) j=aJ.enc (iZ a j):=bS aJ.enc aJ.z e1
  have hy:nth (b.map aJ.enc) j=aJ.enc (iZ b j):=bS aJ.enc aJ.z (by omega)
  have hw:=bT (show j<=100000 by omega)
  generalize iZ a j=x at hx he
  generalize iZ b j=y at hy he
  simp only [e2,hx,hy,mT,List.length_map,Int.toNat_natCast,go_sem]
  repeat (refine bn ?_)
  by_cases e3:x.same y=true
  ·have e4:(!(x.seq==y.seq&&(x.epoch==y.epoch&&(x.ready==y.ready&&x.eF==y.eF))))=false:=by
    unfold aJ.same at e3;rw [e3];rfl
   simp only [e3,Bool.true_and] at he
   simp only [e4,hw,go_sem]
   exact hB _ ⟨j+1,by omega,he⟩ (by simp only;omega) (wk [] [])
  ·simp only [Bool.not_eq_true] at e3
   have e4:(!(x.seq==y.seq&&(x.epoch==y.epoch&&(x.ready==y.ready&&x.eF==y.eF))))=true:=by
    unfold aJ.same at e3;rw [e3];rfl
   simp only [e3,Bool.false_and] at he
   simp only [e4,go_sem]
   exact Fin.aD _ rfl rfl (by rw [<-he];rfl)
 ·have e2:decide ((j:Int)<(a.length:Int))=false:=by simp;omega
  rw [eH (by omega),eH (by omega)] at he
  simp only [e2,go_sem]
  exact Fin.aD _ rfl rfl (by rw [<-he];rfl)
end Go.Eng
