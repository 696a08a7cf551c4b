/-
  Part of a proof: lemmas and definitions of this work.
  No condition.
-/
import Derived.Test.YtmhaehngejengaaGreatA12
import Derived.Test.YtmhaehngejengaaGreatA25
set_option linter.all false
set_option maxRecDepth 100000
set_option maxHeartbeats 8000000
namespace Go.Eng
open Go Go.Proofs
theorem acM (d:Dir):∀ (l:List Span) (next:Int),0≤next→mM d l next=0→∀ x ∈ l,0≤x.low∧x.low≤x.high∧x.high<65536
 |[],next,_,_=>by simp
 |x::r,next,hn,h=>by
  simp only [mM] at h
  split at h
  ·omega
  ·rename_i hc
   simp at hc
   intro y hy
   rcases List.mem_cons.1 hy with rfl|hy
   ·omega
   ·exact acM d r (x.high+1) (by omega) h y hy
theorem anL {l:List Span} {i:Nat} (h:i<l.length):gS l i ∈ l:=by
 unfold gS;rw [List.getElem?_eq_getElem h];exact List.getElem_mem h
theorem mS (x:Span):Span.enc x=[I x.low,I x.high,I x.shard]:=rfl
theorem Xw (l:List Int) (k:Nat) (x:Int):(encI l).set k [I x]=encI (l.set k x):=(List.map_set (f:=fun z=>[I z]) ..).symm
theorem anM (d:Dir) (e:bT) (hl:d.l.length≤69000):Fn Tryz.prog 543 [.agg d.enc,.agg e.enc] [] (.aF [.agg (d.apply e).1.enc,I (d.apply e).2]) [] []:=by
 generalize hR:d.apply e=R
 unfold Dir.apply at hR
 refine Fn.aN akV (by simp) ?_
 unfold VZ SC.mk' Dir.enc bT.enc
 simp only [go_sem]
 by_cases h0:d.val≠0
 ·rw [if_pos h0] at hR
  have h0':(d.val !=0)=true:=by simpa using h0
  refine aO (Bf d (by omega)) rfl rfl ?_
  simp only [h0',go_sem]
  exact Fin.mk0 _ rfl rfl (by rw [←hR];simp only [ay,rv,au,get,Dir.enc,encI,List.map_nil,go_sem])
 rw [if_neg h0] at hR
 have g1:d.val=0:=by simpa using h0
 have hp:=Dir.qE g1
 have anN:=acM d d.l 0 (by omega) hp.1
 have hdv:1≤d.version∧d.version≤1099511627776∧1≤d.aJ.length∧d.aJ.length≤6:=by
  have hv:=g1
  unfold Dir.val at hv
  split at hv
  ·omega
  ·rename_i hc;simp at hc;omega
 refine aO (Bf d (by omega)) rfl rfl ?_
 simp only [g1,aS,go_sem]
 by_cases h1:(d.version==1099511627776)=true
 ·rw [if_pos h1] at hR
  simp only [h1,go_sem]
  exact Fin.mk0 _ rfl rfl (by rw [←hR];simp only [ay,rv,au,get,Dir.enc,encI,List.map_nil,go_sem])
 rw [if_neg h1] at hR
 have h1n:d.version≠1099511627776:=by simpa using h1
 simp only [Bool.not_eq_true] at h1
 simp only [h1,go_sem]
 by_cases h2:(e.kind !=1&&e.kind !=2)=true
 ·rw [if_pos h2] at hR
  simp only [Bool.and_eq_true] at h2
  simp only [h2.1,h2.2,go_sem]
  exact Fin.mk0 _ rfl rfl (by rw [←hR];simp only [ay,rv,au,get,Dir.enc,encI,List.map_nil,go_sem])
 rw [if_neg h2] at hR
 by_cases h3:e.bC<0∨(d.aJ.length:Int)≤e.bC∨e.to<0∨(d.aJ.length:Int)≤e.to
 ·rw [if_pos (by simpa using h3)] at hR
  by_cases hk:e.kind=1
  ·have k1:(e.kind !=1)=false:=by simp [hk]
   simp only [k1,go_sem]
   exact aX
  ·have k1:(e.kind !=1)=true:=by simpa using hk
   have k2:(e.kind !=2)=false:=by simpa [k1] using h2
   simp only [k1,k2,go_sem]
   exact aX
 have i1:¬ e.bC<0:=fun h=>h3 (.inl h)
 have i2:¬ (d.aJ.length:Int)≤e.bC:=fun h=>h3 (.inr (.inl h))
 have i3:¬ e.to<0:=fun h=>h3 (.inr (.inr (.inl h)))
 have i4:¬ (d.aJ.length:Int)≤e.to:=fun h=>h3 (.inr (.inr (.inr h)))
 rw [if_neg (by simp [i1,i2,i3,i4])] at hR
 simp only at hR
 have hw:IntKind.i64.wrap (d.version+1)=d.version+1:=bH (by omega)
 have hm:d.aJ.length≤maxLen:=Nat.le_trans (show _≤300000 by omega) (by decide)
 by_cases hk:e.kind=1
 ·have k1:(e.kind !=1)=false:=by simp [hk]
  have k2:(e.kind==1)=true:=by simp [hk]
  rw [if_pos k2] at hR
  simp only [k1,i1,i2,i3,i4,go_sem]
  refine dh (zh d e.bC (by omega)) rfl rfl ?_
  simp only [go_sem]
  refine dh (zh d e.to (by omega)) rfl rfl ?_
  simp only [hw,aS,k2,go_sem]
  repeat (refine bn ?_)
  rcases OT d e.bC with h4|⟨i,h4,h5⟩
  ·rw [if_pos (by simp [h4])] at hR
   simp only [h4,go_sem]
   exact Fin.mk0 _ rfl rfl (by rw [←hR];simp only [ay,rv,au,get,Dir.enc,encI,List.map_nil,go_sem])
  have h6:¬ (i:Int)<0:=by omega
  by_cases h7:0≤d.idx e.to
  ·rw [if_pos (by simp [h7])] at hR
   simp only [h4,h6,h7,go_sem]
   exact Fin.mk0 _ rfl rfl (by rw [←hR];simp only [ay,rv,au,get,Dir.enc,encI,List.map_nil,go_sem])
  rw [if_neg (by rw [h4];simp [h6,h7]),h4,Int.toNat_natCast] at hR
  have hy:nth (d.l.map Span.enc) i=Span.enc (gS d.l i):=bZ Span.enc Span.z h5
  have hsp:=anN _ (anL h5)
  generalize gS d.l i=s at hR hy hsp
  simp only [h4,h6,h7,hy,mS,Int.toNat_natCast,List.length_map,go_sem]
  repeat (refine bn ?_)
  by_cases h8:e.mid<s.low
  ·rw [if_pos (by simp [h8])] at hR
   simp only [h8,go_sem]
   exact Fin.mk0 _ rfl rfl (by rw [←hR];simp only [ay,rv,au,get,Dir.enc,encI,List.map_nil,go_sem])
  by_cases h9:s.high≤e.mid
  ·rw [if_pos (by simp [h9])] at hR
   simp only [h8,h9,go_sem]
   exact Fin.mk0 _ rfl rfl (by rw [←hR];simp only [ay,rv,au,get,Dir.enc,encI,List.map_nil,go_sem])
  rw [if_neg (by simp [h8,h9])] at hR
  have w1:IntKind.i64.wrap (e.mid+1)=e.mid+1:=bH (by omega)
  have w2:=cZ (show i≤100000 by omega)
  have m1:i≤maxLen:=Nat.le_trans (show _≤300000 by omega) (by decide)
  have m2:i+2≤maxLen:=Nat.le_trans (show _≤300000 by omega) (by decide)
  have m3:i+2+(d.l.length - (i+1))≤maxLen:=Nat.le_trans (show _≤300000 by omega) (by decide)
  have Bg:min i d.l.length=i:=Nat.min_eq_left (by omega)
  have e6:List.map Span.enc (List.take i (List.take i d.l))++[[I s.low,I e.mid,I e.bC],[I (e.mid+1),I s.high,I e.to]]=(d.l.take i++[(⟨s.low,e.mid,e.bC⟩:Span),⟨e.mid+1,s.high,e.to⟩]).map Span.enc:=by
   rw [List.take_take,Nat.min_self,List.map_append];rfl
  have e8:(d.l.take i++[(⟨s.low,e.mid,e.bC⟩:Span),⟨e.mid+1,s.high,e.to⟩]).length=i+2:=by simp;omega
  generalize hL:d.l.take i++[(⟨s.low,e.mid,e.bC⟩:Span),⟨e.mid+1,s.high,e.to⟩]=L at e6 e8
  have hR2:((⟨d.version+1,L++d.l.drop (i+1),d.aJ.set e.to.toNat (-1)⟩:Dir),(0:Int))=R:=by rw [←hR,←hL];simp
  simp only [h8,h9,w1,w2,Int.toNat_natCast,jc,jh,List.length_map,List.length_take,List.length_drop,List.take_length,Bg,Nat.min_self,go_sem]
  repeat (refine bn ?_)
  have c1:¬ i+2≤i:=by omega
  simp only [c1,e6,e8,w2,Int.toNat_natCast,jc,jh,List.take_length,List.length_drop,List.length_map,if_false,go_sem]
  repeat (refine bn ?_)
  have e9:List.take (i+2) L=L:=bD (by omega)
  have e10:List.drop (i+2) L=[]:=List.drop_eq_nil_of_le (by omega)
  have hfx:nth (encI d.aJ) e.to.toNat=[I (gI d.aJ e.to.toNat)]:=bZ (fun z=>[I z]) 0 (by omega)
  have fs:(encI d.aJ).set e.to.toNat [I (-1)]=encI (d.aJ.set e.to.toNat (-1)):=Xw ..
  have ft:List.take d.aJ.length (encI d.aJ)=encI d.aJ:=bD (by rw [aS];omega)
  have zi:List.take d.aJ.length (encI (d.aJ.set e.to.toNat (-1)))=encI (d.aJ.set e.to.toNat (-1)):=bD (by rw [aS];simp)
  by_cases hc:i+2+(d.l.length - (i+1))≤i+2
  ·have hk2:d.l.length - (i+1)=0:=by omega
   have e7:List.drop (i+1) d.l=[]:=List.drop_eq_nil_of_le (by omega)
   rw [e7,List.append_nil] at hR2
   have uh:List.take (i+2) (L.map Span.enc)=L.map Span.enc:=bD (by simp [e8])
   simp only [e7,hk2,e8,e9,e10,Nat.add_zero,Nat.le_refl,List.map_nil,List.nil_append,List.append_nil,jc,jh,mg,fs,ft,hfx,List.tail_cons,aS,List.length_map,if_true,go_sem]
   repeat (refine bn ?_)
   exact Fin.mk0 _ rfl rfl (by rw [←hR2];simp only [ay,rv,au,get,Dir.enc,aS,List.length_set,List.length_map,e8,zi,uh,go_sem];simp)
  ·have uh:List.take (i+2+(d.l.length - (i+1))) ((L++d.l.drop (i+1)).map Span.enc)=(L++d.l.drop (i+1)).map Span.enc:=bD (by simp [e8])
   simp only [hc,e8,e9,jc,jh,mg,fs,ft,hfx,List.tail_cons,aS,List.length_map,if_false,go_sem]
   repeat (refine bn ?_)
   exact Fin.mk0 _ rfl rfl (by rw [←hR2];simp only [ay,rv,au,get,Dir.enc,aS,List.length_set,List.length_map,List.length_append,List.length_drop,e8,zi,uh,go_sem];simp)
 have k1:(e.kind !=1)=true:=by simpa using hk
 have k2:(e.kind !=2)=false:=by simpa [k1] using h2
 have k3:(e.kind==1)=false:=by simpa using hk
 rw [if_neg (by simp [k3])] at hR
 simp only [k1,k2,i1,i2,i3,i4,go_sem]
 refine dh (zh d e.bC (by omega)) rfl rfl ?_
 simp only [go_sem]
 refine dh (zh d e.to (by omega)) rfl rfl ?_
 simp only [hw,aS,k3,go_sem]
 repeat (refine bn ?_)
 rcases OT d e.bC with h4|⟨i,h4,h5⟩
 ·rw [if_pos (by simp [h4])] at hR
  simp only [h4,go_sem]
  exact Fin.mk0 _ rfl rfl (by rw [←hR];simp only [ay,rv,au,get,Dir.enc,encI,List.map_nil,go_sem])
 have h6:¬ (i:Int)<0:=by omega
 rcases OT d e.to with h7|⟨k,h7,h8⟩
 ·rw [if_pos (by simp [h7])] at hR
  simp only [h4,h6,h7,go_sem]
  exact Fin.mk0 _ rfl rfl (by rw [←hR];simp only [ay,rv,au,get,Dir.enc,encI,List.map_nil,go_sem])
 have h9:¬ (k:Int)<0:=by omega
 have v1:IntKind.i64.wrap ((i:Int) - k)=(i:Int) - k:=bH (by omega)
 have v2:IntKind.i64.wrap ((k:Int) - i)=(k:Int) - i:=bH (by omega)
 rw [h4,h7] at hR
 by_cases j1:((i:Int) - k !=1&&(k:Int) - i !=1)=true
 ·rw [if_pos (by simp only [j1,Bool.or_true])] at hR
  simp only [Bool.and_eq_true] at j1
  simp only [h4,h6,h7,h9,v1,v2,j1.1,j1.2,go_sem]
  exact Fin.mk0 _ rfl rfl (by rw [←hR];simp only [ay,rv,au,get,Dir.enc,encI,List.map_nil,go_sem])
 rw [if_neg (by simp only [j1,h6,h9,decide_false,Bool.false_or,Bool.or_false];simp)] at hR
 have j3:(i:Int) - k=1∨(k:Int) - i=1:=by
  simp only [Bool.and_eq_true,bne_iff_ne] at j1;omega
 have hf1:min (i:Int) k=((min i k:Nat):Int):=by omega
 have hf2:min i k+1<d.l.length:=by omega
 rw [hf1,Int.toNat_natCast] at hR
 by_cases j2:((i:Int) - k !=1)=true
 ·have j4:((k:Int) - i !=1)=false:=by simpa [j2] using j1
  simp only [h4,h6,h7,h9,v1,v2,j2,j4,hf1,go_sem]
  generalize min i k=f at hR hf2
  (
   have hy:nth (d.l.map Span.enc) f=Span.enc (gS d.l f):=bZ Span.enc Span.z (by omega)
   have hy2:nth (d.l.map Span.enc) (f+1)=Span.enc (gS d.l (f+1)):=bZ Span.enc Span.z hf2
   generalize gS d.l f=s at hR hy
   generalize gS d.l (f+1)=s2 at hR hy2
   have w1:=cZ (show f≤100000 by omega)
   have w2:IntKind.i64.wrap ((f:Int)+2)=((f+2:Nat):Int):=by rw [bH (by omega)];omega
   have m1:f≤maxLen:=Nat.le_trans (show _≤300000 by omega) (by decide)
   have m2:f+1≤maxLen:=Nat.le_trans (show _≤300000 by omega) (by decide)
   have m3:f+1+(d.l.length - (f+2))≤maxLen:=Nat.le_trans (show _≤300000 by omega) (by decide)
   have Bg:min f d.l.length=f:=Nat.min_eq_left (by omega)
   have e6:List.map Span.enc (List.take f (List.take f d.l))++[[I s.low,I s2.high,I e.to]]=(d.l.take f++[(⟨s.low,s2.high,e.to⟩:Span)]).map Span.enc:=by
    rw [List.take_take,Nat.min_self,List.map_append];rfl
   have e8:(d.l.take f++[(⟨s.low,s2.high,e.to⟩:Span)]).length=f+1:=by simp;omega
   generalize hL:d.l.take f++[(⟨s.low,s2.high,e.to⟩:Span)]=L at e6 e8
   have hR2:((⟨d.version+1,L++d.l.drop (f+2),d.aJ.set e.bC.toNat e.to⟩:Dir),(0:Int))=R:=by rw [←hR,←hL];simp
   have e9:List.take (f+1) L=L:=bD (by omega)
   have e10:List.drop (f+1) L=[]:=List.drop_eq_nil_of_le (by omega)
   have hfx:nth (encI d.aJ) e.bC.toNat=[I (gI d.aJ e.bC.toNat)]:=bZ (fun z=>[I z]) 0 (by omega)
   have fs:(encI d.aJ).set e.bC.toNat [I e.to]=encI (d.aJ.set e.bC.toNat e.to):=Xw ..
   have ft:List.take d.aJ.length (encI d.aJ)=encI d.aJ:=bD (by rw [aS];omega)
   have zi:List.take d.aJ.length (encI (d.aJ.set e.bC.toNat e.to))=encI (d.aJ.set e.bC.toNat e.to):=bD (by rw [aS];simp)
   simp only [hy,hy2,mS,w1,w2,e6,e8,Int.toNat_natCast,jc,jh,List.length_map,List.length_take,List.length_drop,List.take_length,Bg,Nat.min_self,go_sem]
   repeat (refine bn ?_)
   by_cases hc:f+1+(d.l.length - (f+2))≤f+1
   ·have hk2:d.l.length - (f+2)=0:=by omega
    have e7:List.drop (f+2) d.l=[]:=List.drop_eq_nil_of_le (by omega)
    rw [e7,List.append_nil] at hR2
    have uh:List.take (f+1) (L.map Span.enc)=L.map Span.enc:=bD (by simp [e8])
    simp only [e7,hk2,e8,e9,e10,Nat.add_zero,Nat.le_refl,List.map_nil,List.nil_append,List.append_nil,jc,jh,mg,fs,ft,hfx,List.tail_cons,aS,List.length_map,if_true,go_sem]
    repeat (refine bn ?_)
    exact Fin.mk0 _ rfl rfl (by rw [←hR2];simp only [ay,rv,au,get,Dir.enc,aS,List.length_set,List.length_map,e8,zi,uh,go_sem];simp)
   ·have uh:List.take (f+1+(d.l.length - (f+2))) ((L++d.l.drop (f+2)).map Span.enc)=(L++d.l.drop (f+2)).map Span.enc:=bD (by simp [e8])
    simp only [hc,e8,e9,jc,jh,mg,fs,ft,hfx,List.tail_cons,aS,List.length_map,if_false,go_sem]
    repeat (refine bn ?_)
    exact Fin.mk0 _ rfl rfl (by rw [←hR2];simp only [ay,rv,au,get,Dir.enc,aS,List.length_set,List.length_map,List.length_append,List.length_drop,e8,zi,uh,go_sem];simp))
 ·simp only [Bool.not_eq_true] at j2
  simp only [h4,h6,h7,h9,v1,v2,j2,hf1,go_sem]
  generalize min i k=f at hR hf2
  (
   have hy:nth (d.l.map Span.enc) f=Span.enc (gS d.l f):=bZ Span.enc Span.z (by omega)
   have hy2:nth (d.l.map Span.enc) (f+1)=Span.enc (gS d.l (f+1)):=bZ Span.enc Span.z hf2
   generalize gS d.l f=s at hR hy
   generalize gS d.l (f+1)=s2 at hR hy2
   have w1:=cZ (show f≤100000 by omega)
   have w2:IntKind.i64.wrap ((f:Int)+2)=((f+2:Nat):Int):=by rw [bH (by omega)];omega
   have m1:f≤maxLen:=Nat.le_trans (show _≤300000 by omega) (by decide)
   have m2:f+1≤maxLen:=Nat.le_trans (show _≤300000 by omega) (by decide)
   have m3:f+1+(d.l.length - (f+2))≤maxLen:=Nat.le_trans (show _≤300000 by omega) (by decide)
   have Bg:min f d.l.length=f:=Nat.min_eq_left (by omega)
   have e6:List.map Span.enc (List.take f (List.take f d.l))++[[I s.low,I s2.high,I e.to]]=(d.l.take f++[(⟨s.low,s2.high,e.to⟩:Span)]).map Span.enc:=by
    rw [List.take_take,Nat.min_self,List.map_append];rfl
   have e8:(d.l.take f++[(⟨s.low,s2.high,e.to⟩:Span)]).length=f+1:=by simp;omega
   generalize hL:d.l.take f++[(⟨s.low,s2.high,e.to⟩:Span)]=L at e6 e8
   have hR2:((⟨d.version+1,L++d.l.drop (f+2),d.aJ.set e.bC.toNat e.to⟩:Dir),(0:Int))=R:=by rw [←hR,←hL];simp
   have e9:List.take (f+1) L=L:=bD (by omega)
   have e10:List.drop (f+1) L=[]:=List.drop_eq_nil_of_le (by omega)
   have hfx:nth (encI d.aJ) e.bC.toNat=[I (gI d.aJ e.bC.toNat)]:=bZ (fun z=>[I z]) 0 (by omega)
   have fs:(encI d.aJ).set e.bC.toNat [I e.to]=encI (d.aJ.set e.bC.toNat e.to):=Xw ..
   have ft:List.take d.aJ.length (encI d.aJ)=encI d.aJ:=bD (by rw [aS];omega)
   have zi:List.take d.aJ.length (encI (d.aJ.set e.bC.toNat e.to))=encI (d.aJ.set e.bC.toNat e.to):=bD (by rw [aS];simp)
   simp only [hy,hy2,mS,w1,w2,e6,e8,Int.toNat_natCast,jc,jh,List.length_map,List.length_take,List.length_drop,List.take_length,Bg,Nat.min_self,go_sem]
   repeat (refine bn ?_)
   by_cases hc:f+1+(d.l.length - (f+2))≤f+1
   ·have hk2:d.l.length - (f+2)=0:=by omega
    have e7:List.drop (f+2) d.l=[]:=List.drop_eq_nil_of_le (by omega)
    rw [e7,List.append_nil] at hR2
    have uh:List.take (f+1) (L.map Span.enc)=L.map Span.enc:=bD (by simp [e8])
    simp only [e7,hk2,e8,e9,e10,Nat.add_zero,Nat.le_refl,List.map_nil,List.nil_append,List.append_nil,jc,jh,mg,fs,ft,hfx,List.tail_cons,aS,List.length_map,if_true,go_sem]
    repeat (refine bn ?_)
    exact Fin.mk0 _ rfl rfl (by rw [←hR2];simp only [ay,rv,au,get,Dir.enc,aS,List.length_set,List.length_map,e8,zi,uh,go_sem];simp)
   ·have uh:List.take (f+1+(d.l.length - (f+2))) ((L++d.l.drop (f+2)).map Span.enc)=(L++d.l.drop (f+2)).map Span.enc:=bD (by simp [e8])
    simp only [hc,e8,e9,jc,jh,mg,fs,ft,hfx,List.tail_cons,aS,List.length_map,if_false,go_sem]
    repeat (refine bn ?_)
    exact Fin.mk0 _ rfl rfl (by rw [←hR2];simp only [ay,rv,au,get,Dir.enc,aS,List.length_set,List.length_map,List.length_append,List.length_drop,e8,zi,uh,go_sem];simp))
end Go.Eng
namespace Go.Eng
open Go Go.Proofs
theorem Xx (n:Int):Fn Tryz.prog 426 [I n] [] (Bo (cN n)) [] []:=by
 refine Fn.aN ajD (by simp) ?_
 unfold Us SC.mk'
 simp only [go_sem]
 have hJ:=trivial
 repeat' first
  |(first|refine sC ?_|refine sD ?_);simp only [hJ,go_sem]
  |(first|refine bF (fun hq=> ?_) (fun hq=> ?_)|refine dY (fun hq=> ?_) (fun hq=> ?_)|refine dL (fun hq=> ?_) (fun hq=> ?_))<;>simp only [hq,hJ,go_sem]
  |refine sM ?_;simp only [ay,rv,au,get,hJ,go_sem]
  |refine bn ?_
  |fail
 all_goals clear hJ
 all_goals (simp_all [cN,-Int.not_lt,-Int.not_le]<;>omega)
theorem tmod_in (a:Int): -1≤a.tmod 2∧a.tmod 2≤1:=⟨by have:=Int.lt_tmod_of_pos a (show (0:Int)<2 by decide);omega,by have:=Int.tmod_lt_of_pos a (show (0:Int)<2 by decide);omega⟩
theorem anO (s:aH):Fn Tryz.prog 537 [.agg s.enc] [] (.aF [.agg s.begin.1.enc,I s.begin.2]) [] []:=by
 generalize hR:s.begin=R
 unfold aH.begin at hR
 refine Fn.aN akP (by simp) ?_
 unfold VS SC.mk' aH.enc
 simp only [go_sem]
 have ht:=tmod_in s.seq
 have hw:IntKind.i64.wrap (s.seq.tmod 2)=s.seq.tmod 2:=bH (by omega)
 by_cases h1:s.seq<0∨1099511627776<s.seq
 ·rw [if_pos (by simpa using h1)] at hR
  exact aX
 have hw2:IntKind.i64.wrap (s.seq+1)=s.seq+1:=bH (by omega)
 rw [if_neg (by simpa using h1)] at hR
 have hJ:=ah hw (ah hw2 @xh)
 exact aZ
theorem acN (s:aH) (x:aj) (ep li:Int) (hx:x.sm):Fn Tryz.prog 546 [.agg s.enc,.agg x.enc,I ep,I li] [] (.aF [.agg (s.done x ep li).1.enc,I (s.done x ep li).2]) [] []:=by
 generalize hR:s.done x ep li=R
 unfold aH.done at hR
 refine Fn.aN akY (by simp) ?_
 unfold V5 SC.mk' aH.enc aj.enc
 simp only [go_sem]
 have ht:=tmod_in s.seq
 have hw:IntKind.i64.wrap (s.seq.tmod 2)=s.seq.tmod 2:=bH (by omega)
 by_cases h1:s.seq<0∨1099511627776<s.seq
 ·rw [if_pos (by simpa using h1)] at hR
  exact aX
 have hw2:IntKind.i64.wrap (s.seq+1)=s.seq+1:=bH (by omega)
 rw [if_neg (by simpa using h1)] at hR
 have aI:=Be x hx
 have aU:=anB x ep li hx
 have hJ:=ah hw (ah hw2 @xh)
 exact aZ
theorem mT (x:aH):aH.enc x=[I x.seq,I x.epoch,I x.ready,I x.fB]:=rfl
theorem anP (l:List aH) (hl:l.length≤1000):Fn Tryz.prog 362 [.sl 4 (l.map aH.enc)] [] (Bo (Dq l)) [] []:=by
 generalize hR:Dq l=R
 refine Fn.aN aje (by simp) ?_
 unfold TL SC.mk'
 simp only [go_sem]
 refine go_loop (fun j:{j:Nat // j≤l.length∧Dq (l.drop j)=R}=>⟨1000,[(0,.sl 4 (l.map aH.enc)),(3,I j.1)],[]⟩) (fun j=>l.length - j.1) ⟨0,by omega,hR⟩ (wk [] []) ?_
 rintro ⟨j,hj,he⟩ B hB
 simp only [go_sem]
 by_cases e1:j<l.length
 ·have e2:decide ((j:Int)<(l.length:Int))=true:=by simp;omega
  rw [eP aH.z e1] at he
  simp only [Dq,List.all_cons,show l[j]?.getD aH.z=jG l j from rfl] at he
  have hx:nth (l.map aH.enc) j=aH.enc (jG l j):=bZ aH.enc aH.z e1
  have hw:=cZ (show j≤100000 by omega)
  generalize jG l j=x at hx he
  have ht:=tmod_in x.seq
  have hw3:IntKind.i64.wrap (x.seq.tmod 2)=x.seq.tmod 2:=bH (by omega)
  simp only [e2,hx,hw3,mT,xh,List.length_map,Int.toNat_natCast,go_sem]
  repeat (refine bn ?_)
  by_cases e3:(x.seq.tmod 2 !=0)=true
  ·have e4:(x.seq.tmod 2==0)=false:=by simpa using e3
   simp only [e4,Bool.false_and] at he
   simp only [e3,go_sem]
   exact Fin.mk0 _ rfl rfl (by rw [←he];rfl)
  ·have e4:(x.seq.tmod 2==0)=true:=by simpa using e3
   simp only [e4,Bool.true_and] at he
   simp only [Bool.not_eq_true] at e3
   simp only [e3,hw,go_sem]
   exact hB _ ⟨j+1,by omega,he⟩ (by simp only;omega) (wk [] [])
 ·have e2:decide ((j:Int)<(l.length:Int))=false:=by simp;omega
  rw [fF (by omega)] at he
  simp only [e2,go_sem]
  exact Fin.mk0 _ rfl rfl (by rw [←he];rfl)
theorem anQ (l:List aH) (ep:Int) (hl:l.length≤1000):Fn Tryz.prog 364 [.sl 4 (l.map aH.enc),I ep] [] (.aF [I (vC ep l 0 0).1,I (vC ep l 0 0).2]) [] []:=by
 generalize hR:vC ep l 0 0=R
 refine Fn.aN ajg (by simp) ?_
 unfold TN SC.mk'
 simp only [go_sem]
 refine go_loop (fun x:{x:Nat×Int×Int // x.1≤l.length∧vC ep (l.drop x.1) x.2.1 x.2.2=R}=>⟨1000,[(0,.sl 4 (l.map aH.enc)),(1,I ep),(6,I x.1.2.1),(7,I x.1.2.2),(8,I x.1.1)],[]⟩) (fun x=>l.length - x.1.1) ⟨(0,0,0),by omega,hR⟩ (wk [] []) ?_
 rintro ⟨⟨j,p,q⟩,hj,he⟩ B hB
 simp only at hj he
 simp only [go_sem]
 by_cases e1:j<l.length
 ·have e2:decide ((j:Int)<(l.length:Int))=true:=by simp;omega
  rw [eP aH.z e1] at he
  simp only [vC,show l[j]?.getD aH.z=jG l j from rfl] at he
  have hx:nth (l.map aH.enc) j=aH.enc (jG l j):=bZ aH.enc aH.z e1
  have hw:=cZ (show j≤100000 by omega)
  generalize jG l j=x at hx he
  simp only [e2,hx,mT,List.length_map,Int.toNat_natCast,go_sem]
  repeat (refine bn ?_)
  by_cases e3:(x.epoch==ep)=true
  ·simp only [e3,hx,mT,List.length_map,Int.toNat_natCast,go_sem]
   repeat (refine bn ?_)
   refine aO (Xx x.seq) rfl rfl ?_
   simp only [go_sem]
   by_cases e4:cN x.seq=true
   ·simp only [e4,hx,mT,List.length_map,Int.toNat_natCast,go_sem]
    repeat (refine bn ?_)
    refine aO (Xx x.ready) rfl rfl ?_
    simp only [go_sem]
    by_cases e5:cN x.ready=true
    ·simp only [e5,hx,mT,List.length_map,Int.toNat_natCast,go_sem]
     repeat (refine bn ?_)
     refine aO (Xx x.fB) rfl rfl ?_
     simp only [go_sem]
     by_cases e6:cN x.fB=true
     ·simp only [e3,e4,e5,e6,Bool.and_self,if_true] at he
      simp only [e6,hx,hw,mT,List.length_map,Int.toNat_natCast,go_sem]
      repeat (refine bn ?_)
      generalize IntKind.i64.wrap (p+x.ready)=p' at he ⊢
      generalize IntKind.i64.wrap (q+x.fB)=q' at he ⊢
      exact hB _ ⟨(j+1,p',q'),by simp only;omega,he⟩ (by simp only;omega) (wk [] [])
     ·simp only [Bool.not_eq_true] at e6
      simp only [e3,e4,e5,e6,Bool.and_false,Bool.false_eq_true,if_false] at he
      simp only [e6,hw,go_sem]
      exact hB _ ⟨(j+1,p,q),by simp only;omega,he⟩ (by simp only;omega) (wk [] [])
    ·simp only [Bool.not_eq_true] at e5
     simp only [e3,e4,e5,Bool.and_false,Bool.false_and,Bool.false_eq_true,if_false] at he
     simp only [e5,hw,go_sem]
     exact hB _ ⟨(j+1,p,q),by simp only;omega,he⟩ (by simp only;omega) (wk [] [])
   ·simp only [Bool.not_eq_true] at e4
    simp only [e3,e4,Bool.and_false,Bool.false_and,Bool.false_eq_true,if_false] at he
    simp only [e4,hw,go_sem]
    exact hB _ ⟨(j+1,p,q),by simp only;omega,he⟩ (by simp only;omega) (wk [] [])
  ·simp only [Bool.not_eq_true] at e3
   simp only [e3,Bool.false_and,Bool.false_eq_true,if_false] at he
   simp only [e3,hw,go_sem]
   exact hB _ ⟨(j+1,p,q),by simp only;omega,he⟩ (by simp only;omega) (wk [] [])
 ·have e2:decide ((j:Int)<(l.length:Int))=false:=by simp;omega
  rw [fF (by omega)] at he
  simp only [vC] at he
  simp only [e2,go_sem]
  exact Fin.mk0 _ rfl rfl (by rw [←he];simp only [ay,rv,au,go_sem])
theorem acO:∀ (a b:List aH),a.length≠b.length→wY a b=false
 |[],[],h=>absurd rfl h
 |[],_::_,_=>rfl
 |_::_,[],_=>rfl
 |x::a,y::b,h=>by simp only [wY];rw [acO a b (by simpa using h),Bool.and_false]
theorem anR (a b:List aH) (hl:a.length≤1000):Fn Tryz.prog 363 [.sl 4 (a.map aH.enc),.sl 4 (b.map aH.enc)] [] (Bo (wY a b)) [] []:=by
 generalize hR:wY a b=R
 refine Fn.aN ajf (by simp) ?_
 unfold TM SC.mk'
 simp only [go_sem]
 by_cases h0:a.length≠b.length
 ·rw [acO a b h0] at hR
  have h0':((a.length:Int) !=(b.length:Int))=true:=by simp;omega
  simp only [List.length_map,h0',go_sem]
  exact Fin.mk0 _ rfl rfl (by rw [←hR];rfl)
 have h0e:a.length=b.length:=by simpa using h0
 have h0':((a.length:Int) !=(b.length:Int))=false:=by simp;omega
 simp only [List.length_map,h0',go_sem]
 refine go_loop (fun j:{j:Nat // j≤a.length∧wY (a.drop j) (b.drop j)=R}=>⟨1000,[(0,.sl 4 (a.map aH.enc)),(1,.sl 4 (b.map aH.enc)),(5,I j.1)],[]⟩) (fun j=>a.length - j.1) ⟨0,by omega,hR⟩ (wk [] []) ?_
 rintro ⟨j,hj,he⟩ B hB
 simp only [go_sem]
 by_cases e1:j<a.length
 ·have e2:decide ((j:Int)<(a.length:Int))=true:=by simp;omega
  rw [eP aH.z e1,eP aH.z (show j<b.length by omega)] at he
  simp only [wY,show a[j]?.getD aH.z=jG a j from rfl,show b[j]?.getD aH.z=jG b j from rfl] at he
  have hx:nth (a.map aH.enc) j=aH.enc (jG a j):=bZ aH.enc aH.z e1
  have hy:nth (b.map aH.enc) j=aH.enc (jG b j):=bZ aH.enc aH.z (by omega)
  have hw:=cZ (show j≤100000 by omega)
  generalize jG a j=x at hx he
  generalize jG b j=y at hy he
  simp only [e2,hx,hy,mT,List.length_map,Int.toNat_natCast,go_sem]
  repeat (refine bn ?_)
  by_cases e3:x.same y=true
  ·have e4:(!(x.seq==y.seq&&(x.epoch==y.epoch&&(x.ready==y.ready&&x.fB==y.fB))))=false:=by
    unfold aH.same at e3;rw [e3];rfl
   simp only [e3,Bool.true_and] at he
   simp only [e4,hw,go_sem]
   exact hB _ ⟨j+1,by omega,he⟩ (by simp only;omega) (wk [] [])
  ·simp only [Bool.not_eq_true] at e3
   have e4:(!(x.seq==y.seq&&(x.epoch==y.epoch&&(x.ready==y.ready&&x.fB==y.fB))))=true:=by
    unfold aH.same at e3;rw [e3];rfl
   simp only [e3,Bool.false_and] at he
   simp only [e4,go_sem]
   exact Fin.mk0 _ rfl rfl (by rw [←he];rfl)
 ·have e2:decide ((j:Int)<(a.length:Int))=false:=by simp;omega
  rw [fF (by omega),fF (by omega)] at he
  simp only [e2,go_sem]
  exact Fin.mk0 _ rfl rfl (by rw [←he];rfl)
end Go.Eng
