/-
  Part of a proof: lemmas and definitions of this work.
  No condition.
-/
import Derived.Test.YtmhaehngejengaaGreatA12
import Derived.Test.YtmhaehngejengaaGreatA19
set_option linter.all false
set_option maxRecDepth 100000
set_option maxHeartbeats 8000000
namespace Go.Eng
open Go
structure nR (n:Nat) (t:Task) (x:iH):Prop where
 ar:x.1.wf n
 tk:x.2.1.dn=true∨x.2.1.wf n
 ev:x.2.2.1.length≤2
 rs:((x.2.1.results.drop t.results.length).map aV.tokens).flatten.length≤6
 su:x.2.1.setup=t.setup
section
variable {n:Nat} {a:ak} {t:Task} {k:Int}
theorem Task.qF (ht:t.wf n) (r:aV) (k:Int):(t.next r k).dn=true∨(t.next r k).wf n:=by
 by_cases h:t.entry+1=t.inv.entries
 ·left;simp [Task.next,h]
 ·right
  have he:=ht.en
  exact ⟨ht.su,ht.iv,⟨by simp only [Task.next];omega,by simp only [Task.next];omega⟩,fun _=>⟨⟨by simp [Task.next],by simp [Task.next]⟩,.inl (by simp [Task.next])⟩,fun _=>⟨⟨by simp [Task.next],by simp [Task.next]⟩,.inl (by simp [Task.next])⟩,
   fun _ _=> .inl (by simp [Task.next]),fun _=> .inl (by simp [Task.next]),fun _ _=> .inl (by simp [Task.next]),fun _=> .inl (by simp [Task.next]),fun _=> .inl (by simp [Task.next])⟩
theorem Task.wf.turn (ht:t.wf n) {t':Task} (e1:t'.setup=t.setup) (e2:t'.inv=t.inv) (e3:t'.entry=t.entry)
 (k1:t.inv.kind=1→t'.walk.ok∧(t'.pc=0∨t'.pc=1∨t'.pc=2∨(t'.sec.wf n∧dB n t'.sec.lock.cells=1)))
 (k2:t.inv.kind=2→t'.walk.ok∧(t'.pc=0∨t'.pc=2∨(t'.sec.wf n∧dB n t'.sec.lock.cells=1)))
 (k3:3≤t.inv.kind→t.inv.kind≤5→t'.pc=0∨((0≤t'.hnd.route∧t'.hnd.route<65536)∧(t'.pc=1∨(t'.sec.wf n∧dB n t'.sec.lock.cells=1))))
 (k8:t.inv.kind=8→t'.pc=0∨(t'.sec.wf n∧dB n t'.sec.lock.cells=1∧t'.sec.lock.cells.length=2))
 (k9:9≤t.inv.kind→t.inv.kind≤11→t'.pc=0∨(t'.sec.wf n∧dB n t'.sec.lock.cells=2∧t'.sec.lock.cells.length=2))
 (k12:t.inv.kind=12∨t.inv.kind=13→t'.pc=0∨(t'.sec.wf n∧t'.sec.lock.cells.length=1))
 (k14:t.inv.kind=14→t'.pc=0∨(t'.sec.wf n∧dB n t'.sec.lock.cells=1∧t'.sec.lock.cells.length=2)):t'.wf n:=
 ⟨by rw [e1];exact ht.su,by rw [e1,e2];exact ht.iv,by rw [e2,e3];exact ht.en,by rw [e2];exact k1,by rw [e2];exact k2,by rw [e2];exact k3,by rw [e2];exact k8,by rw [e2];exact k9,by rw [e2];exact k12,by rw [e2];exact k14⟩
theorem Task.go_wf (ha:a.wf n) (hs:t.sec.wf n) (e:(t.go a k).2.2.2.2=0):(t.go a k).1.wf n∧(∃ s,(t.go a k).2.1={t with sec:=s}∧s.wf n∧s.lock.cells=t.sec.lock.cells∧
 ((t.go a k).2.2.1=true→s.phase=4)∧((t.go a k).2.2.2.1=true→s.phase=9)):=by
 unfold Task.go at e ⊢
 simp only at e ⊢
 split
 ·rename_i hc;rw [if_pos hc] at e;exact absurd e hc
 ·rename_i hc
  obtain ⟨h1,h2,h3⟩:=ax.Du ha hs (Decidable.not_not.1 hc)
  exact ⟨h1,_,rfl,h2,h3,by simp,by simp⟩
theorem one_cell {n:Nat} {c:Int} (h6:n≤6) (h0:0≤c) (h1:c<n) (l:Int) (hl:1≤l∧l≤8):
 (ax.new [c] l).1.wf n∧dB n (ax.new [c] l).1.lock.cells=1∧(ax.new [c] l).1.lock.cells=[c]:=by
 have e:(ax.new [c] l).2=0:=by
  have:(bf.new [c]).2=0:=by
   unfold bf.new
   rw [if_neg (by simp),if_pos]
   simp [nH,inB];omega
  unfold ax.new
  rw [if_neg (by simp [this]),if_neg (by simp;omega)]
 obtain ⟨h2,h3⟩:=ax.FT (n:=n) (fun x hx=>by simp at hx;omega) e
 exact ⟨h2,by rw [h3];simp [dB,h1],h3⟩
theorem Ov {n:Nat} {c d:Int} (h6:n≤6) (h0:0≤c) (h1:c<d) (h2:d≤n) (l:Int) (hl:1≤l∧l≤8):
 (ax.new [c,d] l).1.wf n∧dB n (ax.new [c,d] l).1.lock.cells=(if d<n then 2 else 1)∧(ax.new [c,d] l).1.lock.cells=[c,d]:=by
 have e:(ax.new [c,d] l).2=0:=by
  have:(bf.new [c,d]).2=0:=by
   unfold bf.new
   rw [if_neg (by simp),if_pos]
   simp [nH,inB];omega
  unfold ax.new
  rw [if_neg (by simp [this]),if_neg (by simp;omega)]
 obtain ⟨h3,h4⟩:=ax.FT (n:=n) (fun x hx=>by simp at hx;omega) e
 refine ⟨h3,?_,h4⟩
 rw [h4]
 have:c<n:=by omega
 by_cases hd:d<n<;>simp [dB,this,hd]
theorem abY {n:Nat} {c:Int} (h6:n≤6) (h0:0≤c) (h1:c≤n) (l:Int) (hl:1≤l∧l≤8):(ax.new [c] l).1.wf n∧(ax.new [c] l).1.lock.cells=[c]:=by
 have e:(ax.new [c] l).2=0:=by
  have:(bf.new [c]).2=0:=by
   unfold bf.new
   rw [if_neg (by simp),if_pos]
   simp [nH,inB];omega
  unfold ax.new
  rw [if_neg (by simp [this]),if_neg (by simp;omega)]
 exact ax.FT (n:=n) (fun x hx=>by simp at hx;omega) e
theorem iE (l:List aV):((l.drop l.length).map aV.tokens).flatten.length≤6:=by simp
theorem qG (t:Task) (r:aV) (k:Int) (h:r.tokens.length≤6):(((t.next r k).results.drop t.results.length).map aV.tokens).flatten.length≤6:=by
 simp [Task.next,h]
theorem dec_wf {s:ax} (hs:s.wf n) (hp:s.phase=4) {o:bG} (ho:o.shards.length=s.shards.length) (he:o.dS.length≤1) (hk:jI s.lock.cells o.order []=true) (t:Task) (ht:t.sec=s):
 (t.dec o).sec.wf n∧(t.dec o).sec.lock.cells=s.lock.cells:=by
 unfold Task.dec
 simp only [ht]
 exact ax.amR hs hp ho he hk
theorem Ox {cells:List Int} (h:1≤cells.length):jI cells [0] []=true:=by simp [jI];omega
theorem abZ {cells:List Int} (h:cells.length=2):jI cells [0,1] []=true:=by simp [jI,h]
theorem ab1 {cells:List Int} (h:cells.length=2):jI cells [1,0] []=true:=by simp [jI,h]
theorem y8 {cells:List Int}:jI cells [] []=true:=rfl
end
end Go.Eng
namespace Go.Eng
open Go
section
variable {n:Nat} {a:ak} {t:Task} {k:Int}
theorem amS (ht:t.wf n) (hk:t.inv.kind=1) (hw:t.walk.ok) {s:ax} (hs:s.wf n) (hp:s.phase=4) (h1:dB n s.lock.cells=1) (hts:t.sec=s):
 (nK t).1.wf n∧(nK t).1.results=t.results∧(nK t).2.length≤2∧(nK t).1.setup=t.setup:=by
 have hq:=(hs.q3 (by omega)).2
 have hl:=y7 n s.lock.cells
 have fin:∀ (t':Task) (o:bG),t'.setup=t.setup→t'.inv=t.inv→t'.entry=t.entry→t'.walk.ok→t'.sec=s→o.shards.length=1→o.dS=[]→(o.order=[]∨o.order=[0])→(t'.dec o).wf n:=by
  intro t' o e1 e2 e3 hw' WW hsh hed hord
  have hd:=dec_wf (n:=n) hs hp (o:=o) (by omega) (by simp [hed]) (by rcases hord with h|h<;>rw [h];exact y8;exact Ox (by omega)) t' WW
  refine ht.turn (t':=t'.dec o) e1 e2 e3 (fun _=>⟨hw',.inr (.inr (.inr ⟨hd.1,by rw [hd.2];exact h1⟩))⟩) ?_ ?_ ?_ ?_ ?_ ?_<;>intros<;>omega
 unfold nK
 simp only
 split
 ·exact ⟨fin _ _ rfl rfl rfl hw hts (by simp [ax.bg,hts,hq,h1]) rfl (.inl rfl),rfl,by simp,rfl⟩
 ·split
  ·split
   ·exact ⟨fin _ _ rfl rfl rfl (Walk.FQ _ _ _) hts (by simp [ax.bg,hts,hq,h1]) rfl (.inl rfl),rfl,by simp,rfl⟩
   ·exact ⟨fin _ _ rfl rfl rfl (Walk.FQ _ _ _) hts (by simp [ax.bg,hts,hq,h1]) rfl (.inl rfl),rfl,by simp,rfl⟩
  ·exact ⟨fin _ _ rfl rfl rfl hw hts (by simp) (by simp [ax.bg]) (.inr rfl),rfl,by simp,rfl⟩
theorem Task.WX (ha:a.wf n) (ht:t.wf n) {r pc:Int} (h0:0≤r) (h1:r<65536):(t.look a r pc).sec.wf n∧dB n (t.look a r pc).sec.lock.cells=1:=by
 obtain ⟨h2,h3⟩:=a.dir.abQ ha.dv h0 h1
 rw [ha.df] at h3
 have:=one_cell (n:=n) ht.su.n6.2 h2 h3 t.setup.limit ht.su.lim
 exact ⟨this.1,this.2.1⟩
theorem amT (ha:a.wf n) (ht:t.wf n) (hk:t.inv.kind=1) (e:(qp a t k).2.2.2=0):nR n t (qp a t k):=by
 obtain ⟨hw,hpc⟩:=ht.k1 hk
 have keep:∀ (t':Task),t'.setup=t.setup→t'.inv=t.inv→t'.entry=t.entry→t'.walk.ok→(t'.pc=0∨t'.pc=1∨t'.pc=2∨(t'.sec.wf n∧dB n t'.sec.lock.cells=1))→t'.wf n:=by
  intro t' e1 e2 e3 h1 h2
  refine ht.turn e1 e2 e3 (fun _=>⟨h1,h2⟩) ?_ ?_ ?_ ?_ ?_ ?_<;>intros<;>omega
 unfold qp at e ⊢
 split
 ·rename_i hc;rw [if_pos hc] at e;exact absurd e hc
 rename_i hc;rw [if_neg hc] at e
 split
 ·rename_i hp
  simp only at e ⊢
  split
  ·refine ⟨ha,Task.qF (t:={t with loaded:=a.fQ}) (keep _ rfl rfl rfl hw hpc) _ _,by simp,qG {t with loaded:=a.fQ} _ _ (by simp),rfl⟩
  ·exact ⟨ha,.inr (keep _ rfl rfl rfl hw (.inr (.inl rfl))),by simp,iE _,rfl⟩
 rename_i hp0;rw [if_neg hp0] at e
 split
 ·rename_i hp;rw [if_pos hp] at e
  simp only at e ⊢
  split
  ·rename_i hd;rw [if_pos hd] at e;exact absurd e hd
  ·rename_i hd;rw [if_neg hd] at e
   have hx:=ak.abM ha (Decidable.not_not.1 hd)
   split
   ·exact ⟨hx,.inr (keep _ rfl rfl rfl (Walk.abT _) (.inr (.inr (.inl rfl)))),by simp,iE _,rfl⟩
   ·exact ⟨hx,.inr (keep _ rfl rfl rfl hw (.inl rfl)),by simp,iE _,rfl⟩
 rename_i hp1;rw [if_neg hp1] at e
 split
 ·rename_i hp;rw [if_pos hp] at e
  exact ⟨ha,.inr (keep _ rfl rfl rfl hw (.inr (.inr (.inr (Task.WX ha ht hw.1 hw.2))))),by simp,iE _,rfl⟩
 rename_i hp2;rw [if_neg hp2] at e
 have hs:t.sec.wf n∧dB n t.sec.lock.cells=1:=by
  simp only [beq_iff_eq] at hp0 hp1 hp2
  rcases hpc with h|h|h|h<;>first|omega|exact h
 simp only at e ⊢
 split
 ·rename_i hd;rw [if_pos hd] at e;exact absurd e hd
 rename_i hd;rw [if_neg hd] at e
 obtain ⟨g1,s,g2,g3,g4,g5,g6⟩:=Task.go_wf ha hs.1 (k:=k) (Decidable.not_not.1 hd)
 have h1:dB n s.lock.cells=1:=by rw [g4];exact hs.2
 have hto:Task.wf n {t with sec:=s}:=keep _ rfl rfl rfl hw (.inr (.inr (.inr ⟨g3,h1⟩)))
 generalize hy:t.go a k=y at*
 obtain ⟨y1,y2,y3,y4,y5⟩:=y
 simp only at g1 g2 g5 g6 e ⊢
 subst g2
 split
 ·rename_i hf
  obtain ⟨d1,d2,d3,d4⟩:=amS hto hk hw g3 (g5 hf) h1 rfl
  exact ⟨g1,.inr d1,d3,by rw [d2];exact iE _,d4⟩
 ·split
  ·exact ⟨g1,.inr hto,by simp,iE _,rfl⟩
  ·split
   ·exact ⟨g1,Task.qF hto _ _,by simp,qG {t with sec:=s} _ _ (by simp),rfl⟩
   ·split
    ·exact ⟨g1,Task.qF hto _ _,by simp,qG {t with sec:=s} _ _ (by simp),rfl⟩
    ·exact ⟨g1,.inr (keep _ rfl rfl rfl hw (.inr (.inr (.inl rfl)))),by simp,iE _,rfl⟩
theorem Oy (mx dl ep li:Int):∀ (l:List ai) (s:aj) (out:List Lease),(out.length:Int)≤mx→((qm mx dl ep li l s out).2.length:Int)≤mx
 |[],s,out,h=>h
 |m::r,s,out,h=>by
  simp only [qm]
  split
  ·split
   ·exact Oy mx dl ep li r _ _ (by simp;omega)
   ·exact Oy mx dl ep li r _ _ h
  ·exact h
theorem aj.take_len (s:aj) (mx now vis ep li:Int) (h:1≤mx):((s.take mx now vis ep li).2.1.length:Int)≤mx:=by
 unfold aj.take
 split
 ·simp only [List.length_nil];omega
 ·split
  ·simp only [List.length_nil];omega
  ·split
   ·simp only [List.length_nil];omega
   ·exact Oy _ _ _ _ _ _ _ (by simp;omega)
theorem amU (ht:t.wf n) (hk:t.inv.kind=2):(AX t).tokens.length≤6:=by
 have hv:=ht.iv
 unfold bV.val at hv
 simp [hk,inB] at hv
 have:=aj.take_len ((eH t.sec.shards 0).expire t.sec.aG.clock t.sec.aG.epoch t.setup.limit).1 t.inv.max_ t.sec.aG.clock t.inv.vis t.sec.aG.epoch t.setup.limit (by omega)
 simp [AX,lF]
 omega
theorem amV (ht:t.wf n) (hk:t.inv.kind=2) (hw:t.walk.ok) {s:ax} (hs:s.wf n) (hp:s.phase=4) (h1:dB n s.lock.cells=1) (hts:t.sec=s):
 (kN t).1.wf n∧(kN t).1.results=t.results∧(kN t).2.length≤2∧(kN t).1.setup=t.setup:=by
 have hq:=(hs.q3 (by omega)).2
 have hl:=y7 n s.lock.cells
 have fin:∀ (t':Task) (o:bG),t'.setup=t.setup→t'.inv=t.inv→t'.entry=t.entry→t'.walk.ok→t'.sec=s→o.shards.length=1→o.dS=[]→(o.order=[]∨o.order=[0])→(t'.dec o).wf n:=by
  intro t' o e1 e2 e3 hw' WW hsh hed hord
  have hd:=dec_wf (n:=n) hs hp (o:=o) (by omega) (by simp [hed]) (by rcases hord with h|h<;>rw [h];exact y8;exact Ox (by omega)) t' WW
  refine ht.turn (t':=t'.dec o) e1 e2 e3 ?_ (fun _=>⟨hw',.inr (.inr ⟨hd.1,by rw [hd.2];exact h1⟩)⟩) ?_ ?_ ?_ ?_ ?_<;>intros<;>omega
 unfold kN
 simp only
 split
 ·exact ⟨fin _ _ rfl rfl rfl hw hts (by simp [ax.bg,hts,hq,h1]) rfl (.inl rfl),rfl,by simp,rfl⟩
 ·split
  ·exact ⟨fin _ _ rfl rfl rfl hw hts (by simp [ax.bg,hts,hq,h1]) rfl (.inl rfl),rfl,by simp,rfl⟩
  ·have ho:∀ (p:Prop) [Decidable p] (x:aj),(if p then ({t.sec.bg with shards:=[x],order:=[0]}:bG) else t.sec.bg).shards.length=1∧
    (if p then ({t.sec.bg with shards:=[x],order:=[0]}:bG) else t.sec.bg).dS=[]∧
    ((if p then ({t.sec.bg with shards:=[x],order:=[0]}:bG) else t.sec.bg).order=[]∨(if p then ({t.sec.bg with shards:=[x],order:=[0]}:bG) else t.sec.bg).order=[0]):=by
    intro p _ x
    split
    ·exact ⟨rfl,rfl,.inr rfl⟩
    ·exact ⟨by simp [ax.bg,hts,hq,h1],rfl,.inl rfl⟩
   have he:∀ (p:Prop) [Decidable p] (v:Ev),(if p then [v] else []).length≤1:=by
    intro p _ v;split<;>simp
   split
   ·exact ⟨fin _ _ rfl rfl rfl (Walk.FQ _ _ _) hts (ho _ _).1 (ho _ _).2.1 (ho _ _).2.2,rfl,by simp only;split<;>simp,rfl⟩
   ·split
    ·exact ⟨fin _ _ rfl rfl rfl (Walk.FQ _ _ _) hts (ho _ _).1 (ho _ _).2.1 (ho _ _).2.2,rfl,by simp only;split<;>simp,rfl⟩
    ·exact ⟨fin _ _ rfl rfl rfl (Walk.FQ _ _ _) hts (ho _ _).1 (ho _ _).2.1 (ho _ _).2.2,rfl,by simp only;split<;>simp,rfl⟩
theorem amW (ha:a.wf n) (ht:t.wf n) (hk:t.inv.kind=2) (e:(qw a t k).2.2.2=0):nR n t (qw a t k):=by
 obtain ⟨hw,hpc⟩:=ht.k2 hk
 have keep:∀ (t':Task),t'.setup=t.setup→t'.inv=t.inv→t'.entry=t.entry→t'.walk.ok→(t'.pc=0∨t'.pc=2∨(t'.sec.wf n∧dB n t'.sec.lock.cells=1))→t'.wf n:=by
  intro t' e1 e2 e3 h1 h2
  refine ht.turn e1 e2 e3 ?_ (fun _=>⟨h1,h2⟩) ?_ ?_ ?_ ?_ ?_<;>intros<;>omega
 unfold qw at e ⊢
 split
 ·rename_i hc;rw [if_pos hc] at e;exact absurd e hc
 rename_i hc;rw [if_neg hc] at e
 split
 ·rename_i hp
  obtain ⟨h2,h3⟩:=abS ha.dv t.inv.home
  rw [ha.df] at h3
  have ho:=one_cell (n:=n) ht.su.n6.2 h2 h3 t.setup.limit ht.su.lim
  exact ⟨ha,.inr (keep _ rfl rfl rfl (Walk.abT _) (.inr (.inr ⟨ho.1,ho.2.1⟩))),by simp,iE _,rfl⟩
 rename_i hp0;rw [if_neg hp0] at e
 split
 ·rename_i hp;rw [if_pos hp] at e
  exact ⟨ha,.inr (keep _ rfl rfl rfl hw (.inr (.inr (Task.WX ha ht hw.1 hw.2)))),by simp,iE _,rfl⟩
 rename_i hp2;rw [if_neg hp2] at e
 have hs:t.sec.wf n∧dB n t.sec.lock.cells=1:=by
  simp only [beq_iff_eq] at hp0 hp2
  rcases hpc with h|h|h<;>first|omega|exact h
 simp only at e ⊢
 split
 ·rename_i hd;rw [if_pos hd] at e;exact absurd e hd
 rename_i hd;rw [if_neg hd] at e
 obtain ⟨g1,s,g2,g3,g4,g5,g6⟩:=Task.go_wf ha hs.1 (k:=k) (Decidable.not_not.1 hd)
 have h1:dB n s.lock.cells=1:=by rw [g4];exact hs.2
 have hto:Task.wf n {t with sec:=s}:=keep _ rfl rfl rfl hw (.inr (.inr ⟨g3,h1⟩))
 generalize hy:t.go a k=y at*
 obtain ⟨y1,y2,y3,y4,y5⟩:=y
 simp only at g1 g2 g5 g6 e ⊢
 subst g2
 split
 ·rename_i hf
  obtain ⟨d1,d2,d3,d4⟩:=amV hto hk hw g3 (g5 hf) h1 rfl
  exact ⟨g1,.inr d1,d3,by rw [d2];exact iE _,d4⟩
 ·split
  ·exact ⟨g1,.inr hto,by simp,iE _,rfl⟩
  ·split
   ·exact ⟨g1,Task.qF hto _ _,by simp,qG {t with sec:=s} _ _ (by simp),rfl⟩
   ·split
    ·exact ⟨g1,Task.qF hto _ _,by simp,qG {t with sec:=s} _ _ (by simp),rfl⟩
    ·split
     ·exact ⟨g1,Task.qF hto _ _,by simp,qG {t with sec:=s} _ _ (amU hto hk),rfl⟩
     ·exact ⟨g1,.inr (keep _ rfl rfl rfl hw (.inr (.inl rfl))),by simp,iE _,rfl⟩
end
end Go.Eng
namespace Go.Eng
open Go
section
variable {n:Nat} {a:ak} {t:Task} {k:Int}
theorem amX {b:List UInt8} (h:(vG b).2=0):(vG b).1.ok:=by
 unfold vG at h ⊢
 split
 ·rename_i x e;exact abz e
 ·rename_i e;rw [e] at h;cases h
theorem amY (ht:t.wf n) (hk:3≤t.inv.kind∧t.inv.kind≤5) (hr:0≤t.hnd.route∧t.hnd.route<65536) {s:ax} (hs:s.wf n) (hp:s.phase=4) (h1:dB n s.lock.cells=1) (hts:t.sec=s):
 (nM t).1.wf n∧(nM t).1.results=t.results∧(nM t).2.length≤2∧(nM t).1.setup=t.setup:=by
 have hq:=(hs.q3 (by omega)).2
 have hl:=y7 n s.lock.cells
 have fin:∀ (o:bG),o.shards.length=1→o.dS=[]→(o.order=[]∨o.order=[0])→(t.dec o).wf n:=by
  intro o hsh hed hord
  have hd:=dec_wf (n:=n) hs hp (o:=o) (by omega) (by simp [hed]) (by rcases hord with h|h<;>rw [h];exact y8;exact Ox (by omega)) t hts
  refine ht.turn (t':=t.dec o) rfl rfl rfl ?_ ?_ (fun _ _=> .inr ⟨hr,.inr ⟨hd.1,by rw [hd.2];exact h1⟩⟩) ?_ ?_ ?_ ?_<;>intros<;>omega
 unfold nM
 simp only
 split
 ·exact ⟨fin _ (by simp [ax.bg,hts,hq,h1]) rfl (.inl rfl),rfl,by simp,rfl⟩
 ·have ho:∀ (p:Prop) [Decidable p] (x:aj),(t.dec (if p then ({t.sec.bg with shards:=[x],order:=[0]}:bG) else t.sec.bg)).wf n:=by
   intro p _ x
   split
   ·exact fin _ rfl rfl (.inr rfl)
   ·exact fin _ (by simp [ax.bg,hts,hq,h1]) rfl (.inl rfl)
  exact ⟨ho _ _,rfl,by simp,rfl⟩
theorem amZ (ha:a.wf n) (ht:t.wf n) (hk:3≤t.inv.kind∧t.inv.kind≤5) (e:(nO a t k).2.2.2=0):nR n t (nO a t k):=by
 have hpc:=ht.k3 hk.1 hk.2
 have keep:∀ (t':Task),t'.setup=t.setup→t'.inv=t.inv→t'.entry=t.entry→(t'.pc=0∨((0≤t'.hnd.route∧t'.hnd.route<65536)∧(t'.pc=1∨(t'.sec.wf n∧dB n t'.sec.lock.cells=1))))→t'.wf n:=by
  intro t' e1 e2 e3 h2
  refine ht.turn e1 e2 e3 ?_ ?_ (fun _ _=>h2) ?_ ?_ ?_ ?_<;>intros<;>omega
 unfold nO at e ⊢
 split
 ·rename_i hc;rw [if_pos hc] at e;exact absurd e hc
 rename_i hc;rw [if_neg hc] at e
 split
 ·rename_i hp
  simp only at e ⊢
  split
  ·exact ⟨ha,Task.qF ht _ _,by simp,qG _ _ _ (by simp),rfl⟩
  ·rename_i hd
   have hh:=amX (Decidable.not_not.1 hd)
   obtain ⟨_,_,h3,h4⟩:=hh
   refine ⟨ha,?_,by simp,?_,by simp only;split<;>rfl⟩
   ·simp only
    right
    split
    ·rename_i hs
     rw [ht.su.sl] at hs
     have ho:=one_cell (n:=n) ht.su.n6.2 h4.1 hs t.setup.limit ht.su.lim
     exact keep _ rfl rfl rfl (.inr ⟨h3,.inr ⟨ho.1,ho.2.1⟩⟩)
    ·exact keep _ rfl rfl rfl (.inr ⟨h3,.inl rfl⟩)
   ·simp only
    split
    ·exact iE _
    ·exact iE _
 rename_i hp0;rw [if_neg hp0] at e
 simp only [beq_iff_eq] at hp0
 have hpc:=hpc.resolve_left hp0
 split
 ·rename_i hp;rw [if_pos hp] at e
  exact ⟨ha,.inr (keep _ rfl rfl rfl (.inr ⟨hpc.1,.inr (Task.WX ha ht hpc.1.1 hpc.1.2)⟩)),by simp,iE _,rfl⟩
 rename_i hp1;rw [if_neg hp1] at e
 simp only [beq_iff_eq] at hp1
 have hs:=hpc.2.resolve_left hp1
 simp only at e ⊢
 split
 ·rename_i hd;rw [if_pos hd] at e;exact absurd e hd
 rename_i hd;rw [if_neg hd] at e
 obtain ⟨g1,s,g2,g3,g4,g5,g6⟩:=Task.go_wf ha hs.1 (k:=k) (Decidable.not_not.1 hd)
 have h1:dB n s.lock.cells=1:=by rw [g4];exact hs.2
 have hto:Task.wf n {t with sec:=s}:=keep _ rfl rfl rfl (.inr ⟨hpc.1,.inr ⟨g3,h1⟩⟩)
 generalize hy:t.go a k=y at*
 obtain ⟨y1,y2,y3,y4,y5⟩:=y
 simp only at g1 g2 g5 g6 e ⊢
 subst g2
 split
 ·rename_i hf
  obtain ⟨d1,d2,d3,d4⟩:=amY hto hk hpc.1 g3 (g5 hf) h1 rfl
  exact ⟨g1,.inr d1,d3,by rw [d2];exact iE _,d4⟩
 ·split
  ·exact ⟨g1,.inr hto,by simp,iE _,rfl⟩
  ·split
   ·exact ⟨g1,.inr (keep _ rfl rfl rfl (.inr ⟨hpc.1,.inl rfl⟩)),by simp,iE _,rfl⟩
   ·exact ⟨g1,Task.qF hto _ _,by simp,qG {t with sec:=s} _ _ (by simp),rfl⟩
theorem Dt (ht:t.wf n) (hk:t.inv.kind=6∨t.inv.kind=7) (t':Task) (e1:t'.setup=t.setup) (e2:t'.inv=t.inv) (e3:t'.entry=t.entry):t'.wf n:=by
 refine ht.turn e1 e2 e3 ?_ ?_ ?_ ?_ ?_ ?_ ?_<;>intros<;>omega
theorem am0 (ha:a.wf n) (ht:t.wf n) (hk:t.inv.kind=6) (e:(qx a t k).2.2.2=0):nR n t (qx a t k):=by
 unfold qx at e ⊢
 split
 ·rename_i hc;rw [if_pos hc] at e;exact absurd e hc
 rename_i hc;rw [if_neg hc] at e
 split
 ·simp only at e ⊢
  split
  ·exact ⟨ha,Task.qF (t:={t with loaded:=a.epoch}) (Dt ht (.inl hk) _ rfl rfl rfl) _ _,by simp,qG {t with loaded:=a.epoch} _ _ (by simp),rfl⟩
  ·exact ⟨ha,.inr (Dt ht (.inl hk) _ rfl rfl rfl),by simp,iE _,rfl⟩
 rename_i hp0;rw [if_neg hp0] at e
 simp only at e ⊢
 split
 ·rename_i hd;rw [if_pos hd] at e;exact absurd e hd
 rename_i hd;rw [if_neg hd] at e
 have hx:=ak.abM ha (Decidable.not_not.1 hd)
 split
 ·exact ⟨hx,.inr (Dt ht (.inl hk) _ rfl rfl rfl),by simp,iE _,rfl⟩
 ·exact ⟨hx,Task.qF ht _ _,by simp,qG _ _ _ (by simp),rfl⟩
theorem am1 (ha:a.wf n) (ht:t.wf n) (hk:t.inv.kind=7) (e:(qy a t k).2.2.2=0):nR n t (qy a t k):=by
 have fr:=Dt ht (.inr hk)
 unfold qy at e ⊢
 split
 ·rename_i hc;rw [if_pos hc] at e;exact absurd e hc
 rename_i hc;rw [if_neg hc] at e
 split
 ·exact ⟨ha,.inr (fr _ rfl rfl rfl),by simp,iE _,rfl⟩
 rename_i hp0;rw [if_neg hp0] at e
 split
 ·rename_i hp;rw [if_pos hp] at e
  simp only at e ⊢
  split
  ·rename_i hd;rw [if_pos hd] at e;exact absurd e hd
  ·refine ⟨ha,.inr ?_,by simp,?_,?_⟩<;>simp only<;>split<;>first|exact fr _ rfl rfl rfl|exact iE _|rfl
 rename_i hp1;rw [if_neg hp1] at e
 split
 ·rename_i hp;rw [if_pos hp] at e
  simp only at e ⊢
  split
  ·rename_i hd;rw [if_pos hd] at e;exact absurd e hd
  ·refine ⟨ha,.inr ?_,by simp,?_,?_⟩<;>simp only<;>split<;>first|exact fr _ rfl rfl rfl|exact iE _|rfl
 rename_i hp2;rw [if_neg hp2] at e
 split
 ·exact ⟨ha,.inr (fr _ rfl rfl rfl),by simp,iE _,rfl⟩
 ·exact ⟨ha,Task.qF ht _ _,by simp,qG _ _ _ (by simp),rfl⟩
theorem am2 (ha:a.wf n) (ht:t.wf n) (hk:t.inv.kind=8) (e:(qA a t k).2.2.2=0):nR n t (qA a t k):=by
 have hpc:=ht.k8 hk
 have keep:∀ (t':Task),t'.setup=t.setup→t'.inv=t.inv→t'.entry=t.entry→(t'.pc=0∨(t'.sec.wf n∧dB n t'.sec.lock.cells=1∧t'.sec.lock.cells.length=2))→t'.wf n:=by
  intro t' e1 e2 e3 h2
  refine ht.turn e1 e2 e3 ?_ ?_ ?_ (fun _=>h2) ?_ ?_ ?_<;>intros<;>omega
 unfold qA at e ⊢
 split
 ·rename_i hc;rw [if_pos hc] at e;exact absurd e hc
 rename_i hc;rw [if_neg hc] at e
 split
 ·obtain ⟨h2,h3⟩:=abS ha.dv t.inv.home
  rw [ha.df] at h3
  have ho:=Ov (n:=n) (c:=rQ a.dir t.inv.home) (d:=t.setup.slots) ht.su.n6.2 h2 (by rw [ht.su.sl];exact h3) (by rw [ht.su.sl];omega) t.setup.limit ht.su.lim
  refine ⟨ha,.inr (keep _ rfl rfl rfl (.inr ⟨ho.1,?_,?_⟩)),by simp,iE _,rfl⟩
  ·have:=ho.2.1;rw [if_neg (by rw [ht.su.sl];omega)] at this;exact this
  ·have:=ho.2.2
   simp only [Task.fJ,this,List.length_cons,List.length_nil]
 rename_i hp0;rw [if_neg hp0] at e
 simp only [beq_iff_eq] at hp0
 have hs:=hpc.resolve_left hp0
 simp only at e ⊢
 split
 ·rename_i hd;rw [if_pos hd] at e;exact absurd e hd
 rename_i hd;rw [if_neg hd] at e
 obtain ⟨g1,s,g2,g3,g4,g5,g6⟩:=Task.go_wf ha hs.1 (k:=k) (Decidable.not_not.1 hd)
 have h1:dB n s.lock.cells=1:=by rw [g4];exact hs.2.1
 have h2:s.lock.cells.length=2:=by rw [g4];exact hs.2.2
 have hto:Task.wf n {t with sec:=s}:=keep _ rfl rfl rfl (.inr ⟨g3,h1,h2⟩)
 generalize hy:t.go a k=y at*
 obtain ⟨y1,y2,y3,y4,y5⟩:=y
 simp only at g1 g2 g5 g6 e ⊢
 subst g2
 split
 ·rename_i hf
  have hq:=(g3.q3 (by have:=g5 hf;omega)).2
  have fin:∀ (o:bG),o.shards.length=1→o.dS=[]→(o.order=[]∨o.order=[1,0])→(Task.dec {t with sec:=s} o).wf n:=by
   intro o hsh hed hord
   have hd:=dec_wf (n:=n) g3 (g5 hf) (o:=o) (by omega) (by simp [hed]) (by rcases hord with h|h<;>rw [h];exact y8;exact ab1 h2) {t with sec:=s} rfl
   exact keep _ rfl rfl rfl (.inr ⟨hd.1,by rw [hd.2];exact h1,by rw [hd.2];exact h2⟩)
  have key:(nP {t with sec:=s}).1.wf n∧(nP {t with sec:=s}).1.results=t.results∧(nP {t with sec:=s}).2.length≤2∧(nP {t with sec:=s}).1.setup=t.setup:=by
   unfold nP
   simp only
   split
   ·exact ⟨fin _ (by simp [ax.bg,hq,h1]) rfl (.inl rfl),rfl,by simp,rfl⟩
   ·split
    ·exact ⟨fin _ (by simp [ax.bg,hq,h1]) rfl (.inl rfl),rfl,by simp,rfl⟩
    ·split
     ·exact ⟨fin _ (by simp [ax.bg,hq,h1]) rfl (.inl rfl),rfl,by simp,rfl⟩
     ·exact ⟨fin _ rfl rfl (.inr rfl),rfl,by simp,rfl⟩
  exact ⟨g1,.inr key.1,key.2.2.1,by rw [key.2.1];exact iE _,key.2.2.2⟩
 ·split
  ·exact ⟨g1,.inr hto,by simp,iE _,rfl⟩
  ·split
   ·exact ⟨g1,.inr (keep _ rfl rfl rfl (.inl rfl)),by simp,iE _,rfl⟩
   ·exact ⟨g1,Task.qF hto _ _,by simp,qG {t with sec:=s} _ _ (by simp),rfl⟩
theorem WY {plan:Task→tV} {lo hi:Int} {cells:Task→List Int} (K L:Nat) (ha:a.wf n) (ht:t.wf n)
 (hpc:t.pc=0∨(t.sec.wf n∧(dB n t.sec.lock.cells=K∨9<K)∧t.sec.lock.cells.length=L))
 (keep:∀ (t':Task),t'.setup=t.setup→t'.inv=t.inv→t'.entry=t.entry→(t'.sec.wf n∧(dB n t'.sec.lock.cells=K∨9<K)∧t'.sec.lock.cells.length=L)→t'.wf n)
 (hc:(ax.new (cells t) t.setup.limit).1.wf n∧(dB n (ax.new (cells t) t.setup.limit).1.lock.cells=K∨9<K)∧(ax.new (cells t) t.setup.limit).1.lock.cells.length=L)
 (hp:∀ t':Task,t'.inv=t.inv→t'.sec.wf n→t'.sec.phase=4→(dB n t'.sec.lock.cells=K∨9<K)→t'.sec.lock.cells.length=L→(plan t').1.shards.length=t'.sec.shards.length∧(plan t').1.dS.length≤1∧jI t'.sec.lock.cells (plan t').1.order []=true)
 (hev:∀ t',(plan t').2.2.length≤2) (htk:∀ t',(plan t').2.1.tokens=[])
 (e:(jX plan lo hi cells a t k).2.2.2=0):nR n t (jX plan lo hi cells a t k):=by
 unfold jX at e ⊢
 split
 ·rename_i hc;rw [if_pos hc] at e;exact absurd e hc
 rename_i hg;rw [if_neg hg] at e
 simp only at e ⊢
 have key:∀ t1:Task,t1.setup=t.setup→t1.inv=t.inv→t1.entry=t.entry→t1.results=t.results→(t1.sec.wf n∧(dB n t1.sec.lock.cells=K∨9<K)∧t1.sec.lock.cells.length=L)→
  (if (t1.go a k).2.2.2.2≠0 then fO (t1.go a k).2.2.2.2 else if (t1.go a k).2.2.1=true then ((t1.go a k).1,(t1.go a k).2.1.dec (plan (t1.go a k).2.1).1,(plan (t1.go a k).2.1).2.2,0)
   else if (!(t1.go a k).2.2.2.1)=true then ((t1.go a k).1,(t1.go a k).2.1,[],0) else ((t1.go a k).1,(t1.go a k).2.1.next (plan (t1.go a k).2.1).2.1 k,[],(0:Int))).2.2.2=0→
  nR n t (if (t1.go a k).2.2.2.2≠0 then fO (t1.go a k).2.2.2.2 else if (t1.go a k).2.2.1=true then ((t1.go a k).1,(t1.go a k).2.1.dec (plan (t1.go a k).2.1).1,(plan (t1.go a k).2.1).2.2,0)
   else if (!(t1.go a k).2.2.2.1)=true then ((t1.go a k).1,(t1.go a k).2.1,[],0) else ((t1.go a k).1,(t1.go a k).2.1.next (plan (t1.go a k).2.1).2.1 k,[],(0:Int))):=by
  intro t1 q1 q2 q3 q4 hs e
  split
  ·rename_i hd;rw [if_pos hd] at e;exact absurd e hd
  rename_i hd;rw [if_neg hd] at e
  obtain ⟨g1,s,g2,g3,g4,g5,g6⟩:=Task.go_wf ha hs.1 (k:=k) (Decidable.not_not.1 hd)
  have h1:(dB n s.lock.cells=K∨9<K)∧s.lock.cells.length=L:=by rw [g4];exact hs.2
  have hto:Task.wf n {t1 with sec:=s}:=keep _ q1 q2 q3 ⟨g3,h1⟩
  generalize hy:t1.go a k=y at*
  obtain ⟨y1,y2,y3,y4,y5⟩:=y
  simp only at g1 g2 g5 g6 e ⊢
  subst g2
  split
  ·rename_i hf
   obtain ⟨p1,p2,p3⟩:=hp {t1 with sec:=s} q2 g3 (g5 hf) h1.1 h1.2
   have hd:=dec_wf (n:=n) g3 (g5 hf) p1 p2 p3 {t1 with sec:=s} rfl
   exact ⟨g1,.inr (keep _ q1 q2 q3 ⟨hd.1,by rw [hd.2];exact h1⟩),hev _,by simp only [Task.dec,←q4];exact iE _,q1⟩
  ·split
   ·exact ⟨g1,.inr hto,by simp,by simp only [←q4];exact iE _,q1⟩
   ·refine ⟨g1,Task.qF hto _ _,by simp,?_,q1⟩
    have:=qG {t1 with sec:=s} (plan {t1 with sec:=s}).2.1 k (by rw [htk];simp)
    rw [←q4]
    exact this
 by_cases h0:t.pc=0
 ·have e0:(if (t.pc==0)=true then t.fJ (cells t) 1 else t)=t.fJ (cells t) 1:=by rw [if_pos (by simp [h0])]
  rw [e0] at e ⊢
  exact key (t.fJ (cells t) 1) rfl rfl rfl rfl hc e
 ·have e0:(if (t.pc==0)=true then t.fJ (cells t) 1 else t)=t:=by rw [if_neg (by simp [h0])]
  rw [e0] at e ⊢
  exact key t rfl rfl rfl rfl (hpc.resolve_left h0) e
end
end Go.Eng
namespace Go.Eng
open Go
section
variable {n:Nat} {a:ak} {t:Task} {k:Int}
theorem WZ (t:Task) (x y:aj):(placed t x y).length=2:=by unfold placed;split<;>rfl
theorem am3 (t:Task) {cells:List Int} (h:cells.length=2):jI cells (jm t) []=true:=by unfold jm;split;exact abZ h;exact ab1 h
theorem Ba (ht:t.wf n) (hk:9≤t.inv.kind∧t.inv.kind≤11):(ax.new (pairT t) t.setup.limit).1.wf n∧(dB n (ax.new (pairT t) t.setup.limit).1.lock.cells=2∨9<2)∧(ax.new (pairT t) t.setup.limit).1.lock.cells.length=2:=by
 have hv:=ht.iv
 have hn:=ht.su.n6
 have hs:=ht.su.sl
 unfold bV.val at hv
 have hw:IntKind.i64.wrap (t.setup.slots - 1)=t.setup.slots - 1:=bH (by omega)
 have h0:¬ t.inv.kind=1:=by omega
 have h1:¬ (t.inv.kind=2∨t.inv.kind=8):=by omega
 have h2:¬ (t.inv.kind=3∨t.inv.kind=4∨t.inv.kind=5):=by omega
 have h3:t.inv.kind=9∨t.inv.kind=10∨t.inv.kind=11:=by omega
 simp only [beq_iff_eq,Bool.or_eq_true,h0,h1,h2,h3,if_false,if_true,hw] at hv
 clear h0 h1 h2 h3
 split at hv
 ·cases hv
 rename_i hx
 simp [inB] at hx
 obtain ⟨⟨a1,a2⟩,⟨b1,b2⟩,c⟩:=hx
 have:=Ov (n:=n) (c:=min t.inv.bC t.inv.to) (d:=max t.inv.bC t.inv.to) hn.2 (by omega) (by omega) (by omega) t.setup.limit ht.su.lim
 refine ⟨this.1,.inl ?_,?_⟩
 ·have h:=this.2.1
  rw [if_pos (by omega)] at h
  exact h
 ·have h:=this.2.2
  simp only [pairT,jJ]
  rw [h];rfl
theorem W9 {plan:Task→tV} {lo hi:Int} (ha:a.wf n) (ht:t.wf n) (hk:9≤t.inv.kind∧t.inv.kind≤11)
 (hp:∀ t':Task,t'.sec.shards.length=2→(plan t').1.shards.length=2∧(plan t').1.dS.length≤1∧((plan t').1.order=[]∨(plan t').1.order=jm t'))
 (hev:∀ t',(plan t').2.2.length≤2) (htk:∀ t',(plan t').2.1.tokens=[])
 (e:(jX plan lo hi pairT a t k).2.2.2=0):nR n t (jX plan lo hi pairT a t k):=by
 refine WY 2 2 ha ht ?_ ?_ (Ba ht hk) ?_ hev htk e
 ·rcases ht.k9 hk.1 hk.2 with h|h
  ·exact .inl h
  ·exact .inr ⟨h.1,.inl h.2.1,h.2.2⟩
 ·intro t' e1 e2 e3 h
  refine ht.turn e1 e2 e3 ?_ ?_ ?_ ?_ (fun _ _=> .inr ⟨h.1,by omega,h.2.2⟩) ?_ ?_<;>intros<;>omega
 ·intro t' _ hs hph hK hL
  have hq:=(hs.q3 (by omega)).2
  obtain ⟨h1,h2,h3⟩:=hp t' (by omega)
  refine ⟨by omega,h2,?_⟩
  rcases h3 with h3|h3<;>rw [h3]
  ·exact y8
  ·exact am3 t' hL
theorem Xa (ht:t.wf n) (hk:t.inv.kind=12∨t.inv.kind=13):0≤t.inv.bC∧t.inv.bC≤n:=by
 have hv:=ht.iv
 have hn:=ht.su.n6
 have hs:=ht.su.sl
 unfold bV.val at hv
 have hw:IntKind.i64.wrap (t.setup.slots - 1)=t.setup.slots - 1:=bH (by omega)
 rcases hk with h|h
 ·simp [h,hw,inB] at hv;omega
 ·simp [h,hw,inB] at hv;omega
theorem ab3 (ht:t.wf n) (hk:t.inv.kind=14):0≤t.inv.bC∧t.inv.bC<n:=by
 have hv:=ht.iv
 have hn:=ht.su.n6
 have hs:=ht.su.sl
 unfold bV.val at hv
 have hw:IntKind.i64.wrap (t.setup.slots - 1)=t.setup.slots - 1:=bH (by omega)
 simp [hk,hw,inB] at hv;omega
theorem am4 (ha:a.wf n) (ht:t.wf n) (hk:t.inv.kind=12∨t.inv.kind=13) (e:(yZ a t k).2.2.2=0):nR n t (yZ a t k):=by
 obtain ⟨c1,c2⟩:=Xa ht hk
 have hl:=abY ht.su.n6.2 c1 c2 t.setup.limit ht.su.lim
 refine WY 10 1 ha ht ?_ ?_ ⟨hl.1,.inr (by omega),by rw [hl.2];rfl⟩ ?_ ?_ ?_ e
 ·rcases ht.k12 hk with h|h
  ·exact .inl h
  ·exact .inr ⟨h.1,.inr (by omega),h.2⟩
 ·intro t' e1 e2 e3 h
  refine ht.turn e1 e2 e3 ?_ ?_ ?_ ?_ ?_ (fun _=> .inr ⟨h.1,h.2.2⟩) ?_<;>intros<;>omega
 ·intro t' _ hs hph _ hL
  have hq:=(hs.q3 (by omega)).2
  have hle:=y7 n t'.sec.lock.cells
  have fin:∀ o:bG,o.shards.length=t'.sec.shards.length→o.dS=[]→(o.order=[]∨o.order=[0])→o.shards.length=t'.sec.shards.length∧o.dS.length≤1∧jI t'.sec.lock.cells o.order []=true:=by
   intro o h1 h2 h3
   refine ⟨h1,by simp [h2],?_⟩
   rcases h3 with h3|h3<;>rw [h3]
   ·exact y8
   ·exact Ox (by omega)
  unfold qB
  simp only
  split
  ·simp only
   split
   ·exact fin _ rfl rfl (.inr rfl)
   ·exact fin _ rfl rfl (.inl rfl)
  ·rename_i h0
   have h1:t'.sec.shards.length=1:=by omega
   split
   ·exact fin _ rfl rfl (.inl rfl)
   ·split
    ·simp only
     split
     ·exact fin _ (by simp [h1]) rfl (.inr rfl)
     ·exact fin _ rfl rfl (.inl rfl)
    ·split
     ·exact fin _ rfl rfl (.inl rfl)
     ·exact fin _ (by simp [h1]) rfl (.inr rfl)
 ·intro t'
  unfold qB
  simp only
  repeat' split
  all_goals simp
 ·intro t'
  unfold qB
  simp only
  repeat' split
  all_goals rfl
theorem am5 (ha:a.wf n) (ht:t.wf n) (hk:t.inv.kind=14) (e:(A8 a t k).2.2.2=0):nR n t (A8 a t k):=by
 obtain ⟨c1,c2⟩:=ab3 ht hk
 have hl:=Ov (n:=n) (c:=t.inv.bC) (d:=t.setup.slots) ht.su.n6.2 c1 (by rw [ht.su.sl];exact c2) (by rw [ht.su.sl];omega) t.setup.limit ht.su.lim
 refine WY 1 2 ha ht ?_ ?_ ⟨hl.1,.inl ?_,by rw [hl.2.2];rfl⟩ ?_ ?_ ?_ e
 ·rcases ht.k14 hk with h|h
  ·exact .inl h
  ·exact .inr ⟨h.1,.inl h.2.1,h.2.2⟩
 ·intro t' e1 e2 e3 h
  refine ht.turn e1 e2 e3 ?_ ?_ ?_ ?_ ?_ ?_ (fun _=> .inr ⟨h.1,by omega,h.2.2⟩)<;>intros<;>omega
 ·have h:=hl.2.1;rw [if_neg (by rw [ht.su.sl];omega)] at h;exact h
 ·intro t' _ hs hph hK hL
  have hq:=(hs.q3 (by omega)).2
  unfold qC
  simp only
  split
  ·exact ⟨rfl,by simp [ax.bg],y8⟩
  ·split
   ·exact ⟨rfl,by simp [ax.bg],y8⟩
   ·exact ⟨by simp only [List.length_cons,List.length_nil];omega,by simp,abZ hL⟩
 ·intro t'
  unfold qC
  simp only
  repeat' split
  all_goals simp
 ·intro t'
  unfold qC
  simp only
  repeat' split
  all_goals rfl
theorem am6 (ha:a.wf n) (ht:t.wf n) (hk:t.inv.kind=9) (e:(AY a t k).2.2.2=0):nR n t (AY a t k):=by
 refine W9 ha ht (by omega) (fun t' h=> ?_) (fun t'=> ?_) (fun t'=> ?_) e<;>unfold tX<;>simp only<;>repeat' split
 all_goals first|exact ⟨h,by simp [ax.bg],.inl rfl⟩|exact ⟨WZ _ _ _,by simp,.inr rfl⟩|simp
theorem am7 (ha:a.wf n) (ht:t.wf n) (hk:t.inv.kind=10) (e:(AZ a t k).2.2.2=0):nR n t (AZ a t k):=by
 refine W9 ha ht (by omega) (fun t' h=> ?_) (fun t'=> ?_) (fun t'=> ?_) e<;>unfold tY<;>simp only<;>repeat' split
 all_goals first|exact ⟨h,by simp [ax.bg],.inl rfl⟩|exact ⟨WZ _ _ _,by simp,.inr rfl⟩|simp
theorem am8 (ha:a.wf n) (ht:t.wf n) (hk:t.inv.kind=11) (e:(A7 a t k).2.2.2=0):nR n t (A7 a t k):=by
 refine W9 ha ht (by omega) (fun t' h=> ?_) (fun t'=> ?_) (fun t'=> ?_) e<;>unfold tZ<;>simp only<;>repeat' split
 all_goals first|exact ⟨h,by simp [ax.bg],.inl rfl⟩|exact ⟨WZ _ _ _,by simp,.inr rfl⟩|simp
theorem ab4 (ha:a.wf n) (ht:t.wf n) (hd:t.dn=false) (e:(fK a t k).2.2.2=0):nR n t (fK a t k):=by
 unfold fK at e ⊢
 rw [if_neg (by simp [hd])] at e ⊢
 split
 ·rename_i h;rw [if_pos h] at e;exact amT ha ht (by simpa using h) e
 rename_i h;rw [if_neg h] at e;clear h
 split
 ·rename_i h;rw [if_pos h] at e;exact amW ha ht (by simpa using h) e
 rename_i h;rw [if_neg h] at e;clear h
 split
 ·rename_i h;rw [if_pos h] at e;exact amZ ha ht (by simp at h;omega) e
 rename_i h;rw [if_neg h] at e;clear h
 split
 ·rename_i h;rw [if_pos h] at e;exact am0 ha ht (by simpa using h) e
 rename_i h;rw [if_neg h] at e;clear h
 split
 ·rename_i h;rw [if_pos h] at e;exact am1 ha ht (by simpa using h) e
 rename_i h;rw [if_neg h] at e;clear h
 split
 ·rename_i h;rw [if_pos h] at e;exact am2 ha ht (by simpa using h) e
 rename_i h;rw [if_neg h] at e;clear h
 split
 ·rename_i h;rw [if_pos h] at e;exact am6 ha ht (by simpa using h) e
 rename_i h;rw [if_neg h] at e;clear h
 split
 ·rename_i h;rw [if_pos h] at e;exact am7 ha ht (by simpa using h) e
 rename_i h;rw [if_neg h] at e;clear h
 split
 ·rename_i h;rw [if_pos h] at e;exact am8 ha ht (by simpa using h) e
 rename_i h;rw [if_neg h] at e;clear h
 split
 ·rename_i h;rw [if_pos h] at e;exact am4 ha ht (by simpa using h) e
 rename_i h;rw [if_neg h] at e;clear h
 split
 ·rename_i h;rw [if_pos h] at e;exact am5 ha ht (by simpa using h) e
 rename_i h;rw [if_neg h] at e;cases e
end
end Go.Eng
