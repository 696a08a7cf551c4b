/-
  Part of a proof: lemmas and definitions of this work.
  No condition.
-/
import Derived.Test.YthhjbngoibmpgaaGreatH08
import Derived.Test.YthhjbngoibmpgaaGreatH13
set_option linter.all false
set_option maxRecDepth 100000
set_option maxHeartbeats 8000000
namespace Go.Eng
open Go
section
variable {n:Nat} {a:ai} {t:Task} {k:Int}
theorem abu (ht:t.wf n) (hk:t.inv.kind=1) (hw:t.walk.ok) {s:ah} (hs:s.wf n) (hp:s.phase=4) (h1:bE n s.lock.cells=1) (hts:t.sec=s):
 (pu t).1.wf n/\(pu t).1.results=t.results/\(pu t).2.length<=2/\(pu t).1.setup=t.setup:=by
 have hq:=(hs.q3 (by omega)).2
 have hl:=rA n s.lock.cells
 have fin:∀ (t':Task) (o:bL),t'.setup=t.setup->t'.inv=t.inv->t'.entry=t.entry->t'.walk.ok->t'.sec=s->o.aA.length=1->o.dF=[]->(o.order=[]\/o.order=[0])->(t'.dec o).wf n:=by
  intro t' o e1 e2 e3 hw' rE hsh hed tY
  have hd:=yL (n:=n) hs hp (o:=o) (by omega) (by simp [hed]) (by rcases tY with h|h<;>rw [h];exact rD;exact BJ (by omega)) t' rE
  refine ht.turn (t':=t'.dec o) e1 e2 e3 (fun _=>⟨hw',.inr (.inr (.inr ⟨hd.1,by rw [hd.2];exact h1⟩))⟩) ?_ ?_ ?_ ?_ ?_ ?_<;>intros<;>omega
 unfold pu
 simp only
 split
 ·exact ⟨fin _ _ rfl rfl rfl hw hts (by simp [ah.bg,hts,hq,h1]) rfl (.inl rfl),rfl,by simp,rfl⟩
 ·split
  ·split
   ·exact ⟨fin _ _ rfl rfl rfl (Walk.yI _ _ _) hts (by simp [ah.bg,hts,hq,h1]) rfl (.inl rfl),rfl,by simp,rfl⟩
   ·exact ⟨fin _ _ rfl rfl rfl (Walk.yI _ _ _) hts (by simp [ah.bg,hts,hq,h1]) rfl (.inl rfl),rfl,by simp,rfl⟩
  ·exact ⟨fin _ _ rfl rfl rfl hw hts (by simp) (by simp [ah.bg]) (.inr rfl),rfl,by simp,rfl⟩
theorem Task.H9 (ha:a.wf n) (ht:t.wf n) {r pc:Int} (h0:0<=r) (h1:r<65536):(t.look a r pc).sec.wf n/\bE n (t.look a r pc).sec.lock.cells=1:=by
 obtain ⟨h2,h3⟩:=a.dir.OU ha.dv h0 h1
 rw [ha.df] at h3
 have:=one_cell (n:=n) ht.su.n6.2 h2 h3 t.setup.limit ht.su.lim
 exact ⟨this.1,this.2.1⟩
theorem abv (ha:a.wf n) (ht:t.wf n) (hk:t.inv.kind=1) (e:(tK a t k).2.2.2=0):jK n t (tK a t k):=by
 obtain ⟨hw,hpc⟩:=ht.k1 hk
 have keep:∀ (t':Task),t'.setup=t.setup->t'.inv=t.inv->t'.entry=t.entry->t'.walk.ok->(t'.pc=0\/t'.pc=1\/t'.pc=2\/(t'.sec.wf n/\bE n t'.sec.lock.cells=1))->t'.wf n:=by
  intro t' e1 e2 e3 h1 h2
  refine ht.turn e1 e2 e3 (fun _=>⟨h1,h2⟩) ?_ ?_ ?_ ?_ ?_ ?_<;>intros<;>omega
 unfold tK at e ⊢
 split
 ·rename_i hc;rw [if_pos hc] at e;exact absurd e hc
 rename_i hc;rw [if_neg hc] at e
 split
 ·rename_i hp
  simp only at e ⊢
  split
  ·refine ⟨ha,Task.kZ (t:={t with loaded:=a.fI}) (keep _ rfl rfl rfl hw hpc) _ _,by simp,lm {t with loaded:=a.fI} _ _ (by simp),rfl⟩
  ·exact ⟨ha,.inr (keep _ rfl rfl rfl hw (.inr (.inl rfl))),by simp,dY _,rfl⟩
 rename_i hp0;rw [if_neg hp0] at e
 split
 ·rename_i hp;rw [if_pos hp] at e
  simp only at e ⊢
  split
  ·rename_i hd;rw [if_pos hd] at e;exact absurd e hd
  ·rename_i hd;rw [if_neg hd] at e
   have hx:=ai.OO ha (Decidable.not_not.1 hd)
   split
   ·exact ⟨hx,.inr (keep _ rfl rfl rfl (Walk.OX _) (.inr (.inr (.inl rfl)))),by simp,dY _,rfl⟩
   ·exact ⟨hx,.inr (keep _ rfl rfl rfl hw (.inl rfl)),by simp,dY _,rfl⟩
 rename_i hp1;rw [if_neg hp1] at e
 split
 ·rename_i hp;rw [if_pos hp] at e
  exact ⟨ha,.inr (keep _ rfl rfl rfl hw (.inr (.inr (.inr (Task.H9 ha ht hw.1 hw.2))))),by simp,dY _,rfl⟩
 rename_i hp2;rw [if_neg hp2] at e
 have hs:t.sec.wf n/\bE n t.sec.lock.cells=1:=by
  simp only [beq_iff_eq] at hp0 hp1 hp2
  rcases hpc with h|h|h|h<;>first|omega|exact h
 simp only at e ⊢
 split
 ·rename_i hd;rw [if_pos hd] at e;exact absurd e hd
 rename_i hd;rw [if_neg hd] at e
 obtain ⟨g1,s,g2,g3,g4,g5,g6⟩:=Task.go_wf ha hs.1 (k:=k) (Decidable.not_not.1 hd)
 have h1:bE n s.lock.cells=1:=by rw [g4];exact hs.2
 have hto:Task.wf n {t with sec:=s}:=keep _ rfl rfl rfl hw (.inr (.inr (.inr ⟨g3,h1⟩)))
 generalize hy:t.go a k=y at*
 obtain ⟨y1,y2,y3,y4,y5⟩:=y
 simp only at g1 g2 g5 g6 e ⊢
 subst g2
 split
 ·rename_i hf
  obtain ⟨d1,d2,d3,d4⟩:=abu hto hk hw g3 (g5 hf) h1 rfl
  exact ⟨g1,.inr d1,d3,by rw [d2];exact dY _,d4⟩
 ·split
  ·exact ⟨g1,.inr hto,by simp,dY _,rfl⟩
  ·split
   ·exact ⟨g1,Task.kZ hto _ _,by simp,lm {t with sec:=s} _ _ (by simp),rfl⟩
   ·split
    ·exact ⟨g1,Task.kZ hto _ _,by simp,lm {t with sec:=s} _ _ (by simp),rfl⟩
    ·exact ⟨g1,.inr (keep _ rfl rfl rfl hw (.inr (.inr (.inl rfl)))),by simp,dY _,rfl⟩
theorem Ia (mx dl ep li:Int):∀ (l:List ak) (s:aj) (out:List Lease),(out.length:Int)<=mx->((qX mx dl ep li l s out).2.length:Int)<=mx
 |[],s,out,h=>h
 |m::r,s,out,h=>by
  simp only [qX]
  split
  ·split
   ·exact Ia mx dl ep li r _ _ (by simp;omega)
   ·exact Ia mx dl ep li r _ _ h
  ·exact h
theorem aj.take_len (s:aj) (mx now eP ep li:Int) (h:1<=mx):((s.take mx now eP ep li).2.1.length:Int)<=mx:=by
 unfold aj.take
 split
 ·simp only [List.length_nil];omega
 ·split
  ·simp only [List.length_nil];omega
  ·split
   ·simp only [List.length_nil];omega
   ·exact Ia _ _ _ _ _ _ _ (by simp;omega)
theorem abw (ht:t.wf n) (hk:t.inv.kind=2):(G9 t).tokens.length<=6:=by
 have hv:=ht.iv
 unfold fM.val at hv
 simp [hk,bD] at hv
 have:=aj.take_len ((bV t.sec.aA 0).expire t.sec.aO.clock t.sec.aO.epoch t.setup.limit).1 t.inv.max_ t.sec.aO.clock t.inv.eP t.sec.aO.epoch t.setup.limit (by omega)
 simp [G9,vK]
 omega
theorem abx (ht:t.wf n) (hk:t.inv.kind=2) (hw:t.walk.ok) {s:ah} (hs:s.wf n) (hp:s.phase=4) (h1:bE n s.lock.cells=1) (hts:t.sec=s):
 (pz t).1.wf n/\(pz t).1.results=t.results/\(pz t).2.length<=2/\(pz t).1.setup=t.setup:=by
 have hq:=(hs.q3 (by omega)).2
 have hl:=rA n s.lock.cells
 have fin:∀ (t':Task) (o:bL),t'.setup=t.setup->t'.inv=t.inv->t'.entry=t.entry->t'.walk.ok->t'.sec=s->o.aA.length=1->o.dF=[]->(o.order=[]\/o.order=[0])->(t'.dec o).wf n:=by
  intro t' o e1 e2 e3 hw' rE hsh hed tY
  have hd:=yL (n:=n) hs hp (o:=o) (by omega) (by simp [hed]) (by rcases tY with h|h<;>rw [h];exact rD;exact BJ (by omega)) t' rE
  refine ht.turn (t':=t'.dec o) e1 e2 e3 ?_ (fun _=>⟨hw',.inr (.inr ⟨hd.1,by rw [hd.2];exact h1⟩)⟩) ?_ ?_ ?_ ?_ ?_<;>intros<;>omega
 unfold pz
 simp only
 split
 ·exact ⟨fin _ _ rfl rfl rfl hw hts (by simp [ah.bg,hts,hq,h1]) rfl (.inl rfl),rfl,by simp,rfl⟩
 ·split
  ·exact ⟨fin _ _ rfl rfl rfl hw hts (by simp [ah.bg,hts,hq,h1]) rfl (.inl rfl),rfl,by simp,rfl⟩
  ·have ho:∀ (p:Prop) [Decidable p] (x:aj),(if p then ({t.sec.bg with aA:=[x],order:=[0]}:bL) else t.sec.bg).aA.length=1/\
    (if p then ({t.sec.bg with aA:=[x],order:=[0]}:bL) else t.sec.bg).dF=[]/\
    ((if p then ({t.sec.bg with aA:=[x],order:=[0]}:bL) else t.sec.bg).order=[]\/(if p then ({t.sec.bg with aA:=[x],order:=[0]}:bL) else t.sec.bg).order=[0]):=by
    intro p _ x
    split
    ·exact ⟨rfl,rfl,.inr rfl⟩
    ·exact ⟨by simp [ah.bg,hts,hq,h1],rfl,.inl rfl⟩
   have he:∀ (p:Prop) [Decidable p] (v:Ev),(if p then [v] else []).length<=1:=by
    intro p _ v;split<;>simp
   split
   ·exact ⟨fin _ _ rfl rfl rfl (Walk.yI _ _ _) hts (ho _ _).1 (ho _ _).2.1 (ho _ _).2.2,rfl,by simp only;split<;>simp,rfl⟩
   ·split
    ·exact ⟨fin _ _ rfl rfl rfl (Walk.yI _ _ _) hts (ho _ _).1 (ho _ _).2.1 (ho _ _).2.2,rfl,by simp only;split<;>simp,rfl⟩
    ·exact ⟨fin _ _ rfl rfl rfl (Walk.yI _ _ _) hts (ho _ _).1 (ho _ _).2.1 (ho _ _).2.2,rfl,by simp only;split<;>simp,rfl⟩
theorem aby (ha:a.wf n) (ht:t.wf n) (hk:t.inv.kind=2) (e:(tN a t k).2.2.2=0):jK n t (tN a t k):=by
 obtain ⟨hw,hpc⟩:=ht.k2 hk
 have keep:∀ (t':Task),t'.setup=t.setup->t'.inv=t.inv->t'.entry=t.entry->t'.walk.ok->(t'.pc=0\/t'.pc=2\/(t'.sec.wf n/\bE n t'.sec.lock.cells=1))->t'.wf n:=by
  intro t' e1 e2 e3 h1 h2
  refine ht.turn e1 e2 e3 ?_ (fun _=>⟨h1,h2⟩) ?_ ?_ ?_ ?_ ?_<;>intros<;>omega
 unfold tN at e ⊢
 split
 ·rename_i hc;rw [if_pos hc] at e;exact absurd e hc
 rename_i hc;rw [if_neg hc] at e
 split
 ·rename_i hp
  obtain ⟨h2,h3⟩:=OW ha.dv t.inv.home
  rw [ha.df] at h3
  have ho:=one_cell (n:=n) ht.su.n6.2 h2 h3 t.setup.limit ht.su.lim
  exact ⟨ha,.inr (keep _ rfl rfl rfl (Walk.OX _) (.inr (.inr ⟨ho.1,ho.2.1⟩))),by simp,dY _,rfl⟩
 rename_i hp0;rw [if_neg hp0] at e
 split
 ·rename_i hp;rw [if_pos hp] at e
  exact ⟨ha,.inr (keep _ rfl rfl rfl hw (.inr (.inr (Task.H9 ha ht hw.1 hw.2)))),by simp,dY _,rfl⟩
 rename_i hp2;rw [if_neg hp2] at e
 have hs:t.sec.wf n/\bE n t.sec.lock.cells=1:=by
  simp only [beq_iff_eq] at hp0 hp2
  rcases hpc with h|h|h<;>first|omega|exact h
 simp only at e ⊢
 split
 ·rename_i hd;rw [if_pos hd] at e;exact absurd e hd
 rename_i hd;rw [if_neg hd] at e
 obtain ⟨g1,s,g2,g3,g4,g5,g6⟩:=Task.go_wf ha hs.1 (k:=k) (Decidable.not_not.1 hd)
 have h1:bE n s.lock.cells=1:=by rw [g4];exact hs.2
 have hto:Task.wf n {t with sec:=s}:=keep _ rfl rfl rfl hw (.inr (.inr ⟨g3,h1⟩))
 generalize hy:t.go a k=y at*
 obtain ⟨y1,y2,y3,y4,y5⟩:=y
 simp only at g1 g2 g5 g6 e ⊢
 subst g2
 split
 ·rename_i hf
  obtain ⟨d1,d2,d3,d4⟩:=abx hto hk hw g3 (g5 hf) h1 rfl
  exact ⟨g1,.inr d1,d3,by rw [d2];exact dY _,d4⟩
 ·split
  ·exact ⟨g1,.inr hto,by simp,dY _,rfl⟩
  ·split
   ·exact ⟨g1,Task.kZ hto _ _,by simp,lm {t with sec:=s} _ _ (by simp),rfl⟩
   ·split
    ·exact ⟨g1,Task.kZ hto _ _,by simp,lm {t with sec:=s} _ _ (by simp),rfl⟩
    ·split
     ·exact ⟨g1,Task.kZ hto _ _,by simp,lm {t with sec:=s} _ _ (abw hto hk),rfl⟩
     ·exact ⟨g1,.inr (keep _ rfl rfl rfl hw (.inr (.inl rfl))),by simp,dY _,rfl⟩
end
end Go.Eng
namespace Go.Eng
open Go
section
variable {n:Nat} {a:ai} {t:Task} {k:Int}
theorem abz {b:List UInt8} (h:(Bu b).2=0):(Bu b).1.ok:=by
 unfold Bu at h ⊢
 split
 ·rename_i x e;exact aaN e
 ·rename_i e;rw [e] at h;cases h
theorem abA (ht:t.wf n) (hk:3<=t.inv.kind/\t.inv.kind<=5) (hr:0<=t.hnd.route/\t.hnd.route<65536) {s:ah} (hs:s.wf n) (hp:s.phase=4) (h1:bE n s.lock.cells=1) (hts:t.sec=s):
 (pE t).1.wf n/\(pE t).1.results=t.results/\(pE t).2.length<=2/\(pE t).1.setup=t.setup:=by
 have hq:=(hs.q3 (by omega)).2
 have hl:=rA n s.lock.cells
 have fin:∀ (o:bL),o.aA.length=1->o.dF=[]->(o.order=[]\/o.order=[0])->(t.dec o).wf n:=by
  intro o hsh hed tY
  have hd:=yL (n:=n) hs hp (o:=o) (by omega) (by simp [hed]) (by rcases tY with h|h<;>rw [h];exact rD;exact BJ (by omega)) t hts
  refine ht.turn (t':=t.dec o) rfl rfl rfl ?_ ?_ (fun _ _=> .inr ⟨hr,.inr ⟨hd.1,by rw [hd.2];exact h1⟩⟩) ?_ ?_ ?_ ?_<;>intros<;>omega
 unfold pE
 simp only
 split
 ·exact ⟨fin _ (by simp [ah.bg,hts,hq,h1]) rfl (.inl rfl),rfl,by simp,rfl⟩
 ·have ho:∀ (p:Prop) [Decidable p] (x:aj),(t.dec (if p then ({t.sec.bg with aA:=[x],order:=[0]}:bL) else t.sec.bg)).wf n:=by
   intro p _ x
   split
   ·exact fin _ rfl rfl (.inr rfl)
   ·exact fin _ (by simp [ah.bg,hts,hq,h1]) rfl (.inl rfl)
  exact ⟨ho _ _,rfl,by simp,rfl⟩
theorem abB (ha:a.wf n) (ht:t.wf n) (hk:3<=t.inv.kind/\t.inv.kind<=5) (e:(tO a t k).2.2.2=0):jK n t (tO a t k):=by
 have hpc:=ht.k3 hk.1 hk.2
 have keep:∀ (t':Task),t'.setup=t.setup->t'.inv=t.inv->t'.entry=t.entry->(t'.pc=0\/((0<=t'.hnd.route/\t'.hnd.route<65536)/\(t'.pc=1\/(t'.sec.wf n/\bE n t'.sec.lock.cells=1))))->t'.wf n:=by
  intro t' e1 e2 e3 h2
  refine ht.turn e1 e2 e3 ?_ ?_ (fun _ _=>h2) ?_ ?_ ?_ ?_<;>intros<;>omega
 unfold tO at e ⊢
 split
 ·rename_i hc;rw [if_pos hc] at e;exact absurd e hc
 rename_i hc;rw [if_neg hc] at e
 split
 ·rename_i hp
  simp only at e ⊢
  split
  ·exact ⟨ha,Task.kZ ht _ _,by simp,lm _ _ _ (by simp),rfl⟩
  ·rename_i hd
   have hh:=abz (Decidable.not_not.1 hd)
   obtain ⟨_,_,h3,h4⟩:=hh
   refine ⟨ha,?_,by simp,?_,by simp only;split<;>rfl⟩
   ·simp only
    right
    split
    ·rename_i hs
     rw [ht.su.sl] at hs
     have ho:=one_cell (n:=n) ht.su.n6.2 h4.1 hs t.setup.limit ht.su.lim
     exact keep _ rfl rfl rfl (.inr ⟨h3,.inr ⟨ho.1,ho.2.1⟩⟩)
    ·exact keep _ rfl rfl rfl (.inr ⟨h3,.inl rfl⟩)
   ·simp only
    split
    ·exact dY _
    ·exact dY _
 rename_i hp0;rw [if_neg hp0] at e
 simp only [beq_iff_eq] at hp0
 have hpc:=hpc.resolve_left hp0
 split
 ·rename_i hp;rw [if_pos hp] at e
  exact ⟨ha,.inr (keep _ rfl rfl rfl (.inr ⟨hpc.1,.inr (Task.H9 ha ht hpc.1.1 hpc.1.2)⟩)),by simp,dY _,rfl⟩
 rename_i hp1;rw [if_neg hp1] at e
 simp only [beq_iff_eq] at hp1
 have hs:=hpc.2.resolve_left hp1
 simp only at e ⊢
 split
 ·rename_i hd;rw [if_pos hd] at e;exact absurd e hd
 rename_i hd;rw [if_neg hd] at e
 obtain ⟨g1,s,g2,g3,g4,g5,g6⟩:=Task.go_wf ha hs.1 (k:=k) (Decidable.not_not.1 hd)
 have h1:bE n s.lock.cells=1:=by rw [g4];exact hs.2
 have hto:Task.wf n {t with sec:=s}:=keep _ rfl rfl rfl (.inr ⟨hpc.1,.inr ⟨g3,h1⟩⟩)
 generalize hy:t.go a k=y at*
 obtain ⟨y1,y2,y3,y4,y5⟩:=y
 simp only at g1 g2 g5 g6 e ⊢
 subst g2
 split
 ·rename_i hf
  obtain ⟨d1,d2,d3,d4⟩:=abA hto hk hpc.1 g3 (g5 hf) h1 rfl
  exact ⟨g1,.inr d1,d3,by rw [d2];exact dY _,d4⟩
 ·split
  ·exact ⟨g1,.inr hto,by simp,dY _,rfl⟩
  ·split
   ·exact ⟨g1,.inr (keep _ rfl rfl rfl (.inr ⟨hpc.1,.inl rfl⟩)),by simp,dY _,rfl⟩
   ·exact ⟨g1,Task.kZ hto _ _,by simp,lm {t with sec:=s} _ _ (by simp),rfl⟩
theorem vP (ht:t.wf n) (hk:t.inv.kind=6\/t.inv.kind=7) (t':Task) (e1:t'.setup=t.setup) (e2:t'.inv=t.inv) (e3:t'.entry=t.entry):t'.wf n:=by
 refine ht.turn e1 e2 e3 ?_ ?_ ?_ ?_ ?_ ?_ ?_<;>intros<;>omega
theorem abC (ha:a.wf n) (ht:t.wf n) (hk:t.inv.kind=6) (e:(tQ a t k).2.2.2=0):jK n t (tQ a t k):=by
 unfold tQ at e ⊢
 split
 ·rename_i hc;rw [if_pos hc] at e;exact absurd e hc
 rename_i hc;rw [if_neg hc] at e
 split
 ·simp only at e ⊢
  split
  ·exact ⟨ha,Task.kZ (t:={t with loaded:=a.epoch}) (vP ht (.inl hk) _ rfl rfl rfl) _ _,by simp,lm {t with loaded:=a.epoch} _ _ (by simp),rfl⟩
  ·exact ⟨ha,.inr (vP ht (.inl hk) _ rfl rfl rfl),by simp,dY _,rfl⟩
 rename_i hp0;rw [if_neg hp0] at e
 simp only at e ⊢
 split
 ·rename_i hd;rw [if_pos hd] at e;exact absurd e hd
 rename_i hd;rw [if_neg hd] at e
 have hx:=ai.OO ha (Decidable.not_not.1 hd)
 split
 ·exact ⟨hx,.inr (vP ht (.inl hk) _ rfl rfl rfl),by simp,dY _,rfl⟩
 ·exact ⟨hx,Task.kZ ht _ _,by simp,lm _ _ _ (by simp),rfl⟩
theorem abD (ha:a.wf n) (ht:t.wf n) (hk:t.inv.kind=7) (e:(tT a t k).2.2.2=0):jK n t (tT a t k):=by
 have fr:=vP ht (.inr hk)
 unfold tT at e ⊢
 split
 ·rename_i hc;rw [if_pos hc] at e;exact absurd e hc
 rename_i hc;rw [if_neg hc] at e
 split
 ·exact ⟨ha,.inr (fr _ rfl rfl rfl),by simp,dY _,rfl⟩
 rename_i hp0;rw [if_neg hp0] at e
 split
 ·rename_i hp;rw [if_pos hp] at e
  simp only at e ⊢
  split
  ·rename_i hd;rw [if_pos hd] at e;exact absurd e hd
  ·refine ⟨ha,.inr ?_,by simp,?_,?_⟩<;>simp only<;>split<;>first|exact fr _ rfl rfl rfl|exact dY _|rfl
 rename_i hp1;rw [if_neg hp1] at e
 split
 ·rename_i hp;rw [if_pos hp] at e
  simp only at e ⊢
  split
  ·rename_i hd;rw [if_pos hd] at e;exact absurd e hd
  ·refine ⟨ha,.inr ?_,by simp,?_,?_⟩<;>simp only<;>split<;>first|exact fr _ rfl rfl rfl|exact dY _|rfl
 rename_i hp2;rw [if_neg hp2] at e
 split
 ·exact ⟨ha,.inr (fr _ rfl rfl rfl),by simp,dY _,rfl⟩
 ·exact ⟨ha,Task.kZ ht _ _,by simp,lm _ _ _ (by simp),rfl⟩
theorem abE (ha:a.wf n) (ht:t.wf n) (hk:t.inv.kind=8) (e:(tV a t k).2.2.2=0):jK n t (tV a t k):=by
 have hpc:=ht.k8 hk
 have keep:∀ (t':Task),t'.setup=t.setup->t'.inv=t.inv->t'.entry=t.entry->(t'.pc=0\/(t'.sec.wf n/\bE n t'.sec.lock.cells=1/\t'.sec.lock.cells.length=2))->t'.wf n:=by
  intro t' e1 e2 e3 h2
  refine ht.turn e1 e2 e3 ?_ ?_ ?_ (fun _=>h2) ?_ ?_ ?_<;>intros<;>omega
 unfold tV at e ⊢
 split
 ·rename_i hc;rw [if_pos hc] at e;exact absurd e hc
 rename_i hc;rw [if_neg hc] at e
 split
 ·obtain ⟨h2,h3⟩:=OW ha.dv t.inv.home
  rw [ha.df] at h3
  have ho:=H8 (n:=n) (c:=tL a.dir t.inv.home) (d:=t.setup.slots) ht.su.n6.2 h2 (by rw [ht.su.sl];exact h3) (by rw [ht.su.sl];omega) t.setup.limit ht.su.lim
  refine ⟨ha,.inr (keep _ rfl rfl rfl (.inr ⟨ho.1,?_,?_⟩)),by simp,dY _,rfl⟩
  ·have:=ho.2.1;rw [if_neg (by rw [ht.su.sl];omega)] at this;exact this
  ·have:=ho.2.2
   simp only [Task.kW,this,List.length_cons,List.length_nil]
 rename_i hp0;rw [if_neg hp0] at e
 simp only [beq_iff_eq] at hp0
 have hs:=hpc.resolve_left hp0
 simp only at e ⊢
 split
 ·rename_i hd;rw [if_pos hd] at e;exact absurd e hd
 rename_i hd;rw [if_neg hd] at e
 obtain ⟨g1,s,g2,g3,g4,g5,g6⟩:=Task.go_wf ha hs.1 (k:=k) (Decidable.not_not.1 hd)
 have h1:bE n s.lock.cells=1:=by rw [g4];exact hs.2.1
 have h2:s.lock.cells.length=2:=by rw [g4];exact hs.2.2
 have hto:Task.wf n {t with sec:=s}:=keep _ rfl rfl rfl (.inr ⟨g3,h1,h2⟩)
 generalize hy:t.go a k=y at*
 obtain ⟨y1,y2,y3,y4,y5⟩:=y
 simp only at g1 g2 g5 g6 e ⊢
 subst g2
 split
 ·rename_i hf
  have hq:=(g3.q3 (by have:=g5 hf;omega)).2
  have fin:∀ (o:bL),o.aA.length=1->o.dF=[]->(o.order=[]\/o.order=[1,0])->(Task.dec {t with sec:=s} o).wf n:=by
   intro o hsh hed tY
   have hd:=yL (n:=n) g3 (g5 hf) (o:=o) (by omega) (by simp [hed]) (by rcases tY with h|h<;>rw [h];exact rD;exact Pm h2) {t with sec:=s} rfl
   exact keep _ rfl rfl rfl (.inr ⟨hd.1,by rw [hd.2];exact h1,by rw [hd.2];exact h2⟩)
  have key:(pF {t with sec:=s}).1.wf n/\(pF {t with sec:=s}).1.results=t.results/\(pF {t with sec:=s}).2.length<=2/\(pF {t with sec:=s}).1.setup=t.setup:=by
   unfold pF
   simp only
   split
   ·exact ⟨fin _ (by simp [ah.bg,hq,h1]) rfl (.inl rfl),rfl,by simp,rfl⟩
   ·split
    ·exact ⟨fin _ (by simp [ah.bg,hq,h1]) rfl (.inl rfl),rfl,by simp,rfl⟩
    ·split
     ·exact ⟨fin _ (by simp [ah.bg,hq,h1]) rfl (.inl rfl),rfl,by simp,rfl⟩
     ·exact ⟨fin _ rfl rfl (.inr rfl),rfl,by simp,rfl⟩
  exact ⟨g1,.inr key.1,key.2.2.1,by rw [key.2.1];exact dY _,key.2.2.2⟩
 ·split
  ·exact ⟨g1,.inr hto,by simp,dY _,rfl⟩
  ·split
   ·exact ⟨g1,.inr (keep _ rfl rfl rfl (.inl rfl)),by simp,dY _,rfl⟩
   ·exact ⟨g1,Task.kZ hto _ _,by simp,lm {t with sec:=s} _ _ (by simp),rfl⟩
theorem Ib {plan:Task->pG} {lo hi:Int} {cells:Task->List Int} (K L:Nat) (ha:a.wf n) (ht:t.wf n)
 (hpc:t.pc=0\/(t.sec.wf n/\(bE n t.sec.lock.cells=K\/9<K)/\t.sec.lock.cells.length=L))
 (keep:∀ (t':Task),t'.setup=t.setup->t'.inv=t.inv->t'.entry=t.entry->(t'.sec.wf n/\(bE n t'.sec.lock.cells=K\/9<K)/\t'.sec.lock.cells.length=L)->t'.wf n)
 (hc:(ah.new (cells t) t.setup.limit).1.wf n/\(bE n (ah.new (cells t) t.setup.limit).1.lock.cells=K\/9<K)/\(ah.new (cells t) t.setup.limit).1.lock.cells.length=L)
 (hp:∀ t':Task,t'.inv=t.inv->t'.sec.wf n->t'.sec.phase=4->(bE n t'.sec.lock.cells=K\/9<K)->t'.sec.lock.cells.length=L->(plan t').1.aA.length=t'.sec.aA.length/\(plan t').1.dF.length<=1/\fe t'.sec.lock.cells (plan t').1.order []=true)
 (hev:∀ t',(plan t').2.2.length<=2) (htk:∀ t',(plan t').2.1.tokens=[])
 (e:(kX plan lo hi cells a t k).2.2.2=0):jK n t (kX plan lo hi cells a t k):=by
 unfold kX at e ⊢
 split
 ·rename_i hc;rw [if_pos hc] at e;exact absurd e hc
 rename_i hg;rw [if_neg hg] at e
 simp only at e ⊢
 have key:∀ t1:Task,t1.setup=t.setup->t1.inv=t.inv->t1.entry=t.entry->t1.results=t.results->(t1.sec.wf n/\(bE n t1.sec.lock.cells=K\/9<K)/\t1.sec.lock.cells.length=L)->
  (if (t1.go a k).2.2.2.2≠0 then fV (t1.go a k).2.2.2.2 else if (t1.go a k).2.2.1=true then ((t1.go a k).1,(t1.go a k).2.1.dec (plan (t1.go a k).2.1).1,(plan (t1.go a k).2.1).2.2,0)
   else if (!(t1.go a k).2.2.2.1)=true then ((t1.go a k).1,(t1.go a k).2.1,[],0) else ((t1.go a k).1,(t1.go a k).2.1.next (plan (t1.go a k).2.1).2.1 k,[],(0:Int))).2.2.2=0->
  jK n t (if (t1.go a k).2.2.2.2≠0 then fV (t1.go a k).2.2.2.2 else if (t1.go a k).2.2.1=true then ((t1.go a k).1,(t1.go a k).2.1.dec (plan (t1.go a k).2.1).1,(plan (t1.go a k).2.1).2.2,0)
   else if (!(t1.go a k).2.2.2.1)=true then ((t1.go a k).1,(t1.go a k).2.1,[],0) else ((t1.go a k).1,(t1.go a k).2.1.next (plan (t1.go a k).2.1).2.1 k,[],(0:Int))):=by
  intro t1 q1 q2 q3 q4 hs e
  split
  ·rename_i hd;rw [if_pos hd] at e;exact absurd e hd
  rename_i hd;rw [if_neg hd] at e
  obtain ⟨g1,s,g2,g3,g4,g5,g6⟩:=Task.go_wf ha hs.1 (k:=k) (Decidable.not_not.1 hd)
  have h1:(bE n s.lock.cells=K\/9<K)/\s.lock.cells.length=L:=by rw [g4];exact hs.2
  have hto:Task.wf n {t1 with sec:=s}:=keep _ q1 q2 q3 ⟨g3,h1⟩
  generalize hy:t1.go a k=y at*
  obtain ⟨y1,y2,y3,y4,y5⟩:=y
  simp only at g1 g2 g5 g6 e ⊢
  subst g2
  split
  ·rename_i hf
   obtain ⟨p1,p2,p3⟩:=hp {t1 with sec:=s} q2 g3 (g5 hf) h1.1 h1.2
   have hd:=yL (n:=n) g3 (g5 hf) p1 p2 p3 {t1 with sec:=s} rfl
   exact ⟨g1,.inr (keep _ q1 q2 q3 ⟨hd.1,by rw [hd.2];exact h1⟩),hev _,by simp only [Task.dec,<-q4];exact dY _,q1⟩
  ·split
   ·exact ⟨g1,.inr hto,by simp,by simp only [<-q4];exact dY _,q1⟩
   ·refine ⟨g1,Task.kZ hto _ _,by simp,?_,q1⟩
    have:=lm {t1 with sec:=s} (plan {t1 with sec:=s}).2.1 k (by rw [htk];simp)
    rw [<-q4]
    exact this
 by_cases h0:t.pc=0
 ·have e0:(if (t.pc==0)=true then t.kW (cells t) 1 else t)=t.kW (cells t) 1:=by rw [if_pos (by simp [h0])]
  rw [e0] at e ⊢
  exact key (t.kW (cells t) 1) rfl rfl rfl rfl hc e
 ·have e0:(if (t.pc==0)=true then t.kW (cells t) 1 else t)=t:=by rw [if_neg (by simp [h0])]
  rw [e0] at e ⊢
  exact key t rfl rfl rfl rfl (hpc.resolve_left h0) e
end
end Go.Eng
namespace Go.Eng
open Go
section
variable {n:Nat} {a:ai} {t:Task} {k:Int}
theorem Ic (t:Task) (x y:aj):(placed t x y).length=2:=by unfold placed;split<;>rfl
theorem abF (t:Task) {cells:List Int} (h:cells.length=2):fe cells (rq t) []=true:=by unfold rq;split;exact Pk h;exact Pm h
theorem abG (ht:t.wf n) (hk:9<=t.inv.kind/\t.inv.kind<=11):(ah.new (pairT t) t.setup.limit).1.wf n/\(bE n (ah.new (pairT t) t.setup.limit).1.lock.cells=2\/9<2)/\(ah.new (pairT t) t.setup.limit).1.lock.cells.length=2:=by
 have hv:=ht.iv
 have hn:=ht.su.n6
 have hs:=ht.su.sl
 unfold fM.val at hv
 have hw:IntKind.i64.wrap (t.setup.slots - 1)=t.setup.slots - 1:=cu (by omega)
 have h0:¬ t.inv.kind=1:=by omega
 have h1:¬ (t.inv.kind=2\/t.inv.kind=8):=by omega
 have h2:¬ (t.inv.kind=3\/t.inv.kind=4\/t.inv.kind=5):=by omega
 have h3:t.inv.kind=9\/t.inv.kind=10\/t.inv.kind=11:=by omega
 simp only [beq_iff_eq,Bool.or_eq_true,h0,h1,h2,h3,if_false,if_true,hw] at hv
 clear h0 h1 h2 h3
 split at hv
 ·cases hv
 rename_i hx
 simp [bD] at hx
 obtain ⟨⟨a1,a2⟩,⟨b1,b2⟩,c⟩:=hx
 have:=H8 (n:=n) (c:=min t.inv.dR t.inv.to) (d:=max t.inv.dR t.inv.to) hn.2 (by omega) (by omega) (by omega) t.setup.limit ht.su.lim
 refine ⟨this.1,.inl ?_,?_⟩
 ·have h:=this.2.1
  rw [if_pos (by omega)] at h
  exact h
 ·have h:=this.2.2
  simp only [pairT,OG]
  rw [h];rfl
theorem Ie {plan:Task->pG} {lo hi:Int} (ha:a.wf n) (ht:t.wf n) (hk:9<=t.inv.kind/\t.inv.kind<=11)
 (hp:∀ t':Task,t'.sec.aA.length=2->(plan t').1.aA.length=2/\(plan t').1.dF.length<=1/\((plan t').1.order=[]\/(plan t').1.order=rq t'))
 (hev:∀ t',(plan t').2.2.length<=2) (htk:∀ t',(plan t').2.1.tokens=[])
 (e:(kX plan lo hi pairT a t k).2.2.2=0):jK n t (kX plan lo hi pairT a t k):=by
 refine Ib 2 2 ha ht ?_ ?_ (abG ht hk) ?_ hev htk e
 ·rcases ht.k9 hk.1 hk.2 with h|h
  ·exact .inl h
  ·exact .inr ⟨h.1,.inl h.2.1,h.2.2⟩
 ·intro t' e1 e2 e3 h
  refine ht.turn e1 e2 e3 ?_ ?_ ?_ ?_ (fun _ _=> .inr ⟨h.1,by omega,h.2.2⟩) ?_ ?_<;>intros<;>omega
 ·intro t' _ hs Pn hK hL
  have hq:=(hs.q3 (by omega)).2
  obtain ⟨h1,h2,h3⟩:=hp t' (by omega)
  refine ⟨by omega,h2,?_⟩
  rcases h3 with h3|h3<;>rw [h3]
  ·exact rD
  ·exact abF t' hL
theorem abH (ht:t.wf n) (hk:t.inv.kind=12\/t.inv.kind=13):0<=t.inv.dR/\t.inv.dR<=n:=by
 have hv:=ht.iv
 have hn:=ht.su.n6
 have hs:=ht.su.sl
 unfold fM.val at hv
 have hw:IntKind.i64.wrap (t.setup.slots - 1)=t.setup.slots - 1:=cu (by omega)
 rcases hk with h|h
 ·simp [h,hw,bD] at hv;omega
 ·simp [h,hw,bD] at hv;omega
theorem abI (ht:t.wf n) (hk:t.inv.kind=14):0<=t.inv.dR/\t.inv.dR<n:=by
 have hv:=ht.iv
 have hn:=ht.su.n6
 have hs:=ht.su.sl
 unfold fM.val at hv
 have hw:IntKind.i64.wrap (t.setup.slots - 1)=t.setup.slots - 1:=cu (by omega)
 simp [hk,hw,bD] at hv;omega
theorem abJ (ha:a.wf n) (ht:t.wf n) (hk:t.inv.kind=12\/t.inv.kind=13) (e:(Ho a t k).2.2.2=0):jK n t (Ho a t k):=by
 obtain ⟨c1,c2⟩:=abH ht hk
 have hl:=abt ht.su.n6.2 c1 c2 t.setup.limit ht.su.lim
 refine Ib 10 1 ha ht ?_ ?_ ⟨hl.1,.inr (by omega),by rw [hl.2];rfl⟩ ?_ ?_ ?_ e
 ·rcases ht.k12 hk with h|h
  ·exact .inl h
  ·exact .inr ⟨h.1,.inr (by omega),h.2⟩
 ·intro t' e1 e2 e3 h
  refine ht.turn e1 e2 e3 ?_ ?_ ?_ ?_ ?_ (fun _=> .inr ⟨h.1,h.2.2⟩) ?_<;>intros<;>omega
 ·intro t' _ hs Pn _ hL
  have hq:=(hs.q3 (by omega)).2
  have hle:=rA n t'.sec.lock.cells
  have fin:∀ o:bL,o.aA.length=t'.sec.aA.length->o.dF=[]->(o.order=[]\/o.order=[0])->o.aA.length=t'.sec.aA.length/\o.dF.length<=1/\fe t'.sec.lock.cells o.order []=true:=by
   intro o h1 h2 h3
   refine ⟨h1,by simp [h2],?_⟩
   rcases h3 with h3|h3<;>rw [h3]
   ·exact rD
   ·exact BJ (by omega)
  unfold vL
  simp only
  split
  ·simp only
   split
   ·exact fin _ rfl rfl (.inr rfl)
   ·exact fin _ rfl rfl (.inl rfl)
  ·rename_i h0
   have h1:t'.sec.aA.length=1:=by omega
   split
   ·exact fin _ rfl rfl (.inl rfl)
   ·split
    ·simp only
     split
     ·exact fin _ (by simp [h1]) rfl (.inr rfl)
     ·exact fin _ rfl rfl (.inl rfl)
    ·split
     ·exact fin _ rfl rfl (.inl rfl)
     ·exact fin _ (by simp [h1]) rfl (.inr rfl)
 ·intro t'
  unfold vL
  simp only
  repeat' split
  all_goals simp
 ·intro t'
  unfold vL
  simp only
  repeat' split
  all_goals rfl
theorem abK (ha:a.wf n) (ht:t.wf n) (hk:t.inv.kind=14) (e:(Hq a t k).2.2.2=0):jK n t (Hq a t k):=by
 obtain ⟨c1,c2⟩:=abI ht hk
 have hl:=H8 (n:=n) (c:=t.inv.dR) (d:=t.setup.slots) ht.su.n6.2 c1 (by rw [ht.su.sl];exact c2) (by rw [ht.su.sl];omega) t.setup.limit ht.su.lim
 refine Ib 1 2 ha ht ?_ ?_ ⟨hl.1,.inl ?_,by rw [hl.2.2];rfl⟩ ?_ ?_ ?_ e
 ·rcases ht.k14 hk with h|h
  ·exact .inl h
  ·exact .inr ⟨h.1,.inl h.2.1,h.2.2⟩
 ·intro t' e1 e2 e3 h
  refine ht.turn e1 e2 e3 ?_ ?_ ?_ ?_ ?_ ?_ (fun _=> .inr ⟨h.1,by omega,h.2.2⟩)<;>intros<;>omega
 ·have h:=hl.2.1;rw [if_neg (by rw [ht.su.sl];omega)] at h;exact h
 ·intro t' _ hs Pn hK hL
  have hq:=(hs.q3 (by omega)).2
  unfold vM
  simp only
  split
  ·exact ⟨rfl,by simp [ah.bg],rD⟩
  ·split
   ·exact ⟨rfl,by simp [ah.bg],rD⟩
   ·exact ⟨by simp only [List.length_cons,List.length_nil];omega,by simp,Pk hL⟩
 ·intro t'
  unfold vM
  simp only
  repeat' split
  all_goals simp
 ·intro t'
  unfold vM
  simp only
  repeat' split
  all_goals rfl
theorem abL (ha:a.wf n) (ht:t.wf n) (hk:t.inv.kind=9) (e:(Hf a t k).2.2.2=0):jK n t (Hf a t k):=by
 refine Ie ha ht (by omega) (fun t' h=> ?_) (fun t'=> ?_) (fun t'=> ?_) e<;>unfold Bw<;>simp only<;>repeat' split
 all_goals first|exact ⟨h,by simp [ah.bg],.inl rfl⟩|exact ⟨Ic _ _ _,by simp,.inr rfl⟩|simp
theorem abM (ha:a.wf n) (ht:t.wf n) (hk:t.inv.kind=10) (e:(Hg a t k).2.2.2=0):jK n t (Hg a t k):=by
 refine Ie ha ht (by omega) (fun t' h=> ?_) (fun t'=> ?_) (fun t'=> ?_) e<;>unfold Bz<;>simp only<;>repeat' split
 all_goals first|exact ⟨h,by simp [ah.bg],.inl rfl⟩|exact ⟨Ic _ _ _,by simp,.inr rfl⟩|simp
theorem abN (ha:a.wf n) (ht:t.wf n) (hk:t.inv.kind=11) (e:(Hl a t k).2.2.2=0):jK n t (Hl a t k):=by
 refine Ie ha ht (by omega) (fun t' h=> ?_) (fun t'=> ?_) (fun t'=> ?_) e<;>unfold BA<;>simp only<;>repeat' split
 all_goals first|exact ⟨h,by simp [ah.bg],.inl rfl⟩|exact ⟨Ic _ _ _,by simp,.inr rfl⟩|simp
theorem abO (ha:a.wf n) (ht:t.wf n) (hd:t.dn=false) (e:(ru a t k).2.2.2=0):jK n t (ru a t k):=by
 unfold ru at e ⊢
 rw [if_neg (by simp [hd])] at e ⊢
 split
 ·rename_i h;rw [if_pos h] at e;exact abv ha ht (by simpa using h) e
 rename_i h;rw [if_neg h] at e;clear h
 split
 ·rename_i h;rw [if_pos h] at e;exact aby ha ht (by simpa using h) e
 rename_i h;rw [if_neg h] at e;clear h
 split
 ·rename_i h;rw [if_pos h] at e;exact abB ha ht (by simp at h;omega) e
 rename_i h;rw [if_neg h] at e;clear h
 split
 ·rename_i h;rw [if_pos h] at e;exact abC ha ht (by simpa using h) e
 rename_i h;rw [if_neg h] at e;clear h
 split
 ·rename_i h;rw [if_pos h] at e;exact abD ha ht (by simpa using h) e
 rename_i h;rw [if_neg h] at e;clear h
 split
 ·rename_i h;rw [if_pos h] at e;exact abE ha ht (by simpa using h) e
 rename_i h;rw [if_neg h] at e;clear h
 split
 ·rename_i h;rw [if_pos h] at e;exact abL ha ht (by simpa using h) e
 rename_i h;rw [if_neg h] at e;clear h
 split
 ·rename_i h;rw [if_pos h] at e;exact abM ha ht (by simpa using h) e
 rename_i h;rw [if_neg h] at e;clear h
 split
 ·rename_i h;rw [if_pos h] at e;exact abN ha ht (by simpa using h) e
 rename_i h;rw [if_neg h] at e;clear h
 split
 ·rename_i h;rw [if_pos h] at e;exact abJ ha ht (by simpa using h) e
 rename_i h;rw [if_neg h] at e;clear h
 split
 ·rename_i h;rw [if_pos h] at e;exact abK ha ht (by simpa using h) e
 rename_i h;rw [if_neg h] at e;cases e
end
end Go.Eng
namespace Go.Eng
open Go
structure bF.wf (n m:Nat) (w:bF):Prop where
 su:w.setup.ok n
 ar:w.arena.wf n
 tk:∀ t ∈ w.tasks,t.dn=true\/t.wf n
 tl:w.tasks.length<=200
 s0:0<=w.steps
 s1:w.steps<=m
 lg:w.log.length<=2*m
 hl:w.handles.length<=6*m
theorem bF.wf.mono {n m m':Nat} {w:bF} (h:w.wf n m) (hm:m<=m'):w.wf n m':=
 ⟨h.su,h.ar,h.tk,h.tl,h.s0,by have:=h.s1;omega,by have:=h.lg;omega,by have:=h.hl;omega⟩
section
variable {n m:Nat} {w:bF}
theorem Po {l:List Task} {i:Nat} (h:i<l.length):gT l i ∈ l:=by
 unfold gT;rw [List.getElem?_eq_getElem h];exact List.getElem_mem h
theorem bF.rz (h:w.wf n m) (hm:m<=1000000) {i:Nat} (hi:i<w.tasks.length) (hd:(gT w.tasks i).dn=false) (e:(w.step i).2=0):(w.step i).1.wf n (m+1):=by
 have ht:=(h.tk _ (Po hi)).resolve_left (by simp [hd])
 have hw:IntKind.i64.wrap (w.steps+1)=w.steps+1:=cu (by have:=h.s0;have:=h.s1;omega)
 unfold bF.step at e ⊢
 simp only [hw] at e ⊢
 split
 ·rename_i hc;rw [if_pos hc] at e;exact absurd e hc
 ·rename_i hc
  have hs:=abO h.ar ht hd (k:=w.steps+1) (Decidable.not_not.1 hc)
  refine ⟨h.su,hs.ar,fun t hx=> ?_,by simpa using h.tl,by have:=h.s0;simp only;omega,by have:=h.s1;simp only;omega,?_,?_⟩
  ·rcases List.mem_or_eq_of_mem_set hx with hx|rfl
   ·exact h.tk t hx
   ·exact hs.tk
  ·have:=h.lg;have:=hs.ev;simp only [List.length_append];omega
  ·have:=h.hl;have:=hs.rs;simp only [List.length_append];omega
end
end Go.Eng
namespace Go.Eng
open Go
attribute [go_sem] Int.cast_ofNat_Int Int.reduceBEq Int.reduceLT Int.reduceLE Int.reduceSub Int.reduceAdd Int.reduceNeg Int.reduceEq Int.reduceToNat decide_true decide_false decide_eq_true_eq beq_self_eq_true bne_self_eq_false List.reduceReplicate List.length_set List.length_replicate List.length_cons List.length_nil List.set_cons_zero List.set_cons_succ Int.toNat_natCast
def Ig (l:List Int) (a:Nat):Setup×Nat:=
 let s:Int:=iq l a 1 4
 let a1:=jq l a 1 4
 let c:=iq l a1 1 5
 let a2:=jq l a1 1 5
 let d:=iq l a2 1 4
 let a3:=jq l a2 1 4
 let li:=iq l a3 1 3
 let a4:=jq l a3 1 3
 (⟨s,iq l a4 1 s,c,d,li,0,1,0⟩,jq l a4 1 s)
def pK (l:List Int) (a:Nat):Setup×Nat:=
 let x:=Ig l a
 let k:=nV l x.2 12
 let a1:=nN l x.2 12
 if k==9 then ({x.1 with clock:=1073741824 - nV l a1 200},nN l a1 200)
 else if k==10 then ({x.1 with fI:=1073741824 - nV l a1 4},nN l a1 4)
 else if k==11 then ({x.1 with epoch:=65536 - nV l a1 3},nN l a1 3)
 else (x.1,a1)
end Go.Eng
namespace Go.Eng
open Go Go.Proofs
theorem half {j:Nat} (h1:1<=j) (h2:j<=100000):IntKind.i64.wrap ((IntKind.i64.wrap ((j:Int) - 1)).tdiv 2)=(((j - 1) / 2:Nat):Int):=by
 have e:(j:Int) - 1=((j - 1:Nat):Int):=by omega
 rw [e,cu (n:=((j - 1:Nat):Int)) (by omega),Int.tdiv_eq_ediv_of_nonneg (by omega),cu (by omega)]
 omega
theorem vQ:((2:Int)≠0)=True:=by simp
theorem Pp (h:List Due) (i k:Nat):(Bb h i k).length=h.length:=by simp [Bb]
theorem Ih:∀ (f i:Nat) (h:List Due),(yu h f i).length=h.length
 |0,_,_=>rfl
 |f+1,i,h=>by simp only [yu];split;rw [Ih f,Pp];rfl
theorem Pq:∀ (f i:Nat) (h:List Due),(Bc h f i).length=h.length
 |0,_,_=>rfl
 |f+1,i,h=>by
  simp only [Bc];split
  ·split
   ·rw [Pq f,Pp]
   ·rfl
  ·rfl
theorem abP (h:List Due) (i:Nat) (hi:i<h.length):(Be h i).length=h.length - 1:=by
 unfold Be
 simp only
 split
 ·simp
 ·split
  ·rw [Ih];simp
  ·rw [Pq];simp
theorem Ps (id:Int):∀ (l:List Due) (i:Nat),j3 id l i= -1\/∃ k:Nat,j3 id l i=((i+k:Nat):Int)/\k<l.length
 |[],i=> .inl rfl
 |d::r,i=>by
  simp only [j3]
  split
  ·exact .inr ⟨0,by simp,by simp⟩
  ·rcases Ps id r (i+1) with h|⟨k,h1,h2⟩
   ·exact .inl h
   ·exact .inr ⟨k+1,by rw [h1];omega,by simp;omega⟩
theorem Pt (h:List Due) (d:Due):(Bd h d).1.length<=h.length+1:=by
 unfold Bd
 repeat' split
 all_goals simp [Ih]
theorem Pv (h:List Due) (id:Int):(yw h id).1.length<=h.length:=by
 unfold yw
 repeat' split
 ·simp
 ·simp
 ·rcases Ps id h 0 with h2|⟨k,h2,h3⟩
  ·omega
  ·rw [h2,Nat.zero_add,Int.toNat_natCast,abP _ _ h3];omega
theorem Pw (t:Table):∀ (l:List Lease) (i:Nat),qU t l i=0->(∀ x ∈ l,x.msg.val=0/\0<=x.dl/\x.dl<=1073741824)/\iA t.heap=0/\t.heap.length=t.l.length/\j4 t t.heap=0
 |[],i,e=>by
  simp only [qU] at e
  split at e
  ·rename_i h;simp at h;omega
  ·rename_i h;split at e
   ·omega
   ·rename_i h2;exact ⟨by simp,by simpa using h,by omega,e⟩
 |x::r,i,e=>by
  simp only [qU] at e
  split at e
  ·rename_i h;simp at h;omega
  rename_i h0
  split at e
  ·omega
  split at e
  ·omega
  rename_i h2
  split at e
  ·omega
  obtain ⟨h3,h4⟩:=Pw t r (i+1) e
  refine ⟨fun y hy=> ?_,h4⟩
  rcases List.mem_cons.1 hy with rfl|hy
  ·simp at h0 h2;exact ⟨h0,h2⟩
  ·exact h3 y hy
theorem Table.val_zero {t:Table} (h:t.val=0):t.l.length<=12/\t.heap.length=t.l.length/\iA t.heap=0/\(∀ x ∈ t.l,x.msg.val=0/\0<=x.dl/\x.dl<=1073741824)/\j4 t t.heap=0:=by
 unfold Table.val at h
 split at h
 ·omega
 ·obtain ⟨h1,h2,h3,h4⟩:=Pw t t.l 0 h
  exact ⟨by omega,h3,h2,h1,h4⟩
end Go.Eng
