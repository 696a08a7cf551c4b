/-
  Part of a proof: lemmas and definitions of this work.
  No condition.
-/
import Derived.Test.YthhjbngoibmpgaaGreatA08
import Derived.Test.YthhjbngoibmpgaaGreatA14
set_option linter.all false
set_option maxRecDepth 100000
set_option maxHeartbeats 8000000
namespace Go.Eng
open Go
section
variable {n:Nat} {a:aj} {t:Task} {k:Int}
theorem alp (ht:t.wf n) (hk:t.inv.kind=1) (hw:t.walk.ok) {s:av} (hs:s.wf n) (hp:s.phase=4) (h1:cu n s.lock.cells=1) (hts:t.sec=s):
 (l8 t).1.wf n/\(l8 t).1.results=t.results/\(l8 t).2.length<=2/\(l8 t).1.setup=t.setup:=by
 have hq:=(hs.q3 (by omega)).2
 have hl:=wZ n s.lock.cells
 have fin:∀ (t':Task) (o:bD),t'.setup=t.setup->t'.inv=t.inv->t'.entry=t.entry->t'.walk.ok->t'.sec=s->o.aN.length=1->o.dO=[]->(o.order=[]\/o.order=[0])->(t'.dec o).wf n:=by
  intro t' o e1 e2 e3 hw' V4 hsh hed ze
  have hd:=DF (n:=n) hs hp (o:=o) (by omega) (by simp [hed]) (by rcases ze with h|h<;>rw [h];exact w9;exact Np (by omega)) t' V4
  refine ht.turn (t':=t'.dec o) e1 e2 e3 (fun _=>⟨hw',.inr (.inr (.inr ⟨hd.1,by rw [hd.2];exact h1⟩))⟩) ?_ ?_ ?_ ?_ ?_ ?_<;>intros<;>omega
 unfold l8
 simp only
 split
 ·exact ⟨fin _ _ rfl rfl rfl hw hts (by simp [av.bg,hts,hq,h1]) rfl (.inl rfl),rfl,by simp,rfl⟩
 ·split
  ·split
   ·exact ⟨fin _ _ rfl rfl rfl (Walk.Dz _ _ _) hts (by simp [av.bg,hts,hq,h1]) rfl (.inl rfl),rfl,by simp,rfl⟩
   ·exact ⟨fin _ _ rfl rfl rfl (Walk.Dz _ _ _) hts (by simp [av.bg,hts,hq,h1]) rfl (.inl rfl),rfl,by simp,rfl⟩
  ·exact ⟨fin _ _ rfl rfl rfl hw hts (by simp) (by simp [av.bg]) (.inr rfl),rfl,by simp,rfl⟩
theorem Task.V5 (ha:a.wf n) (ht:t.wf n) {r pc:Int} (h0:0<=r) (h1:r<65536):(t.look a r pc).sec.wf n/\cu n (t.look a r pc).sec.lock.cells=1:=by
 obtain ⟨h2,h3⟩:=a.dir.abU ha.dv h0 h1
 rw [ha.df] at h3
 have:=one_cell (n:=n) ht.su.n6.2 h2 h3 t.setup.limit ht.su.lim
 exact ⟨this.1,this.2.1⟩
theorem alq (ha:a.wf n) (ht:t.wf n) (hk:t.inv.kind=1) (e:(oK a t k).2.2.2=0):mo n t (oK a t k):=by
 obtain ⟨hw,hpc⟩:=ht.k1 hk
 have keep:∀ (t':Task),t'.setup=t.setup->t'.inv=t.inv->t'.entry=t.entry->t'.walk.ok->(t'.pc=0\/t'.pc=1\/t'.pc=2\/(t'.sec.wf n/\cu n t'.sec.lock.cells=1))->t'.wf n:=by
  intro t' e1 e2 e3 h1 h2
  refine ht.turn e1 e2 e3 (fun _=>⟨h1,h2⟩) ?_ ?_ ?_ ?_ ?_ ?_<;>intros<;>omega
 unfold oK at e ⊢
 split
 ·rename_i hc;rw [if_pos hc] at e;exact absurd e hc
 rename_i hc;rw [if_neg hc] at e
 split
 ·rename_i hp
  simp only at e ⊢
  split
  ·refine ⟨ha,Task.oV (t:={t with loaded:=a.fB}) (keep _ rfl rfl rfl hw hpc) _ _,by simp,oW {t with loaded:=a.fB} _ _ (by simp),rfl⟩
  ·exact ⟨ha,.inr (keep _ rfl rfl rfl hw (.inr (.inl rfl))),by simp,fV _,rfl⟩
 rename_i hp0;rw [if_neg hp0] at e
 split
 ·rename_i hp;rw [if_pos hp] at e
  simp only at e ⊢
  split
  ·rename_i hd;rw [if_pos hd] at e;exact absurd e hd
  ·rename_i hd;rw [if_neg hd] at e
   have hx:=aj.abQ ha (Decidable.not_not.1 hd)
   split
   ·exact ⟨hx,.inr (keep _ rfl rfl rfl (Walk.abX _) (.inr (.inr (.inl rfl)))),by simp,fV _,rfl⟩
   ·exact ⟨hx,.inr (keep _ rfl rfl rfl hw (.inl rfl)),by simp,fV _,rfl⟩
 rename_i hp1;rw [if_neg hp1] at e
 split
 ·rename_i hp;rw [if_pos hp] at e
  exact ⟨ha,.inr (keep _ rfl rfl rfl hw (.inr (.inr (.inr (Task.V5 ha ht hw.1 hw.2))))),by simp,fV _,rfl⟩
 rename_i hp2;rw [if_neg hp2] at e
 have hs:t.sec.wf n/\cu n t.sec.lock.cells=1:=by
  simp only [beq_iff_eq] at hp0 hp1 hp2
  rcases hpc with h|h|h|h<;>first|omega|exact h
 simp only at e ⊢
 split
 ·rename_i hd;rw [if_pos hd] at e;exact absurd e hd
 rename_i hd;rw [if_neg hd] at e
 obtain ⟨g1,s,g2,g3,g4,g5,g6⟩:=Task.go_wf ha hs.1 (k:=k) (Decidable.not_not.1 hd)
 have h1:cu n s.lock.cells=1:=by rw [g4];exact hs.2
 have hto:Task.wf n {t with sec:=s}:=keep _ rfl rfl rfl hw (.inr (.inr (.inr ⟨g3,h1⟩)))
 generalize hy:t.go a k=y at*
 obtain ⟨y1,y2,y3,y4,y5⟩:=y
 simp only at g1 g2 g5 g6 e ⊢
 subst g2
 split
 ·rename_i hf
  obtain ⟨d1,d2,d3,d4⟩:=alp hto hk hw g3 (g5 hf) h1 rfl
  exact ⟨g1,.inr d1,d3,by rw [d2];exact fV _,d4⟩
 ·split
  ·exact ⟨g1,.inr hto,by simp,fV _,rfl⟩
  ·split
   ·exact ⟨g1,Task.oV hto _ _,by simp,oW {t with sec:=s} _ _ (by simp),rfl⟩
   ·split
    ·exact ⟨g1,Task.oV hto _ _,by simp,oW {t with sec:=s} _ _ (by simp),rfl⟩
    ·exact ⟨g1,.inr (keep _ rfl rfl rfl hw (.inr (.inr (.inl rfl)))),by simp,fV _,rfl⟩
theorem Nq (mx dl ep li:Int):∀ (l:List ai) (s:ak) (out:List Lease),(out.length:Int)<=mx->((oI mx dl ep li l s out).2.length:Int)<=mx
 |[],s,out,h=>h
 |m::r,s,out,h=>by
  simp only [oI]
  split
  ·split
   ·exact Nq mx dl ep li r _ _ (by simp;omega)
   ·exact Nq mx dl ep li r _ _ h
  ·exact h
theorem ak.take_len (s:ak) (mx now bB ep li:Int) (h:1<=mx):((s.take mx now bB ep li).2.1.length:Int)<=mx:=by
 unfold ak.take
 split
 ·simp only [List.length_nil];omega
 ·split
  ·simp only [List.length_nil];omega
  ·split
   ·simp only [List.length_nil];omega
   ·exact Nq _ _ _ _ _ _ _ (by simp;omega)
theorem alr (ht:t.wf n) (hk:t.inv.kind=2):(yZ t).tokens.length<=6:=by
 have hv:=ht.iv
 unfold bM.val at hv
 simp [hk,dP] at hv
 have:=ak.take_len ((dW t.sec.aN 0).expire t.sec.aI.clock t.sec.aI.epoch t.setup.limit).1 t.inv.max_ t.sec.aI.clock t.inv.bB t.sec.aI.epoch t.setup.limit (by omega)
 simp [yZ,kF]
 omega
theorem als (ht:t.wf n) (hk:t.inv.kind=2) (hw:t.walk.ok) {s:av} (hs:s.wf n) (hp:s.phase=4) (h1:cu n s.lock.cells=1) (hts:t.sec=s):
 (jV t).1.wf n/\(jV t).1.results=t.results/\(jV t).2.length<=2/\(jV t).1.setup=t.setup:=by
 have hq:=(hs.q3 (by omega)).2
 have hl:=wZ n s.lock.cells
 have fin:∀ (t':Task) (o:bD),t'.setup=t.setup->t'.inv=t.inv->t'.entry=t.entry->t'.walk.ok->t'.sec=s->o.aN.length=1->o.dO=[]->(o.order=[]\/o.order=[0])->(t'.dec o).wf n:=by
  intro t' o e1 e2 e3 hw' V4 hsh hed ze
  have hd:=DF (n:=n) hs hp (o:=o) (by omega) (by simp [hed]) (by rcases ze with h|h<;>rw [h];exact w9;exact Np (by omega)) t' V4
  refine ht.turn (t':=t'.dec o) e1 e2 e3 ?_ (fun _=>⟨hw',.inr (.inr ⟨hd.1,by rw [hd.2];exact h1⟩)⟩) ?_ ?_ ?_ ?_ ?_<;>intros<;>omega
 unfold jV
 simp only
 split
 ·exact ⟨fin _ _ rfl rfl rfl hw hts (by simp [av.bg,hts,hq,h1]) rfl (.inl rfl),rfl,by simp,rfl⟩
 ·split
  ·exact ⟨fin _ _ rfl rfl rfl hw hts (by simp [av.bg,hts,hq,h1]) rfl (.inl rfl),rfl,by simp,rfl⟩
  ·have ho:∀ (p:Prop) [Decidable p] (x:ak),(if p then ({t.sec.bg with aN:=[x],order:=[0]}:bD) else t.sec.bg).aN.length=1/\
    (if p then ({t.sec.bg with aN:=[x],order:=[0]}:bD) else t.sec.bg).dO=[]/\
    ((if p then ({t.sec.bg with aN:=[x],order:=[0]}:bD) else t.sec.bg).order=[]\/(if p then ({t.sec.bg with aN:=[x],order:=[0]}:bD) else t.sec.bg).order=[0]):=by
    intro p _ x
    split
    ·exact ⟨rfl,rfl,.inr rfl⟩
    ·exact ⟨by simp [av.bg,hts,hq,h1],rfl,.inl rfl⟩
   have he:∀ (p:Prop) [Decidable p] (v:Ev),(if p then [v] else []).length<=1:=by
    intro p _ v;split<;>simp
   split
   ·exact ⟨fin _ _ rfl rfl rfl (Walk.Dz _ _ _) hts (ho _ _).1 (ho _ _).2.1 (ho _ _).2.2,rfl,by simp only;split<;>simp,rfl⟩
   ·split
    ·exact ⟨fin _ _ rfl rfl rfl (Walk.Dz _ _ _) hts (ho _ _).1 (ho _ _).2.1 (ho _ _).2.2,rfl,by simp only;split<;>simp,rfl⟩
    ·exact ⟨fin _ _ rfl rfl rfl (Walk.Dz _ _ _) hts (ho _ _).1 (ho _ _).2.1 (ho _ _).2.2,rfl,by simp only;split<;>simp,rfl⟩
theorem alu (ha:a.wf n) (ht:t.wf n) (hk:t.inv.kind=2) (e:(oL a t k).2.2.2=0):mo n t (oL a t k):=by
 obtain ⟨hw,hpc⟩:=ht.k2 hk
 have keep:∀ (t':Task),t'.setup=t.setup->t'.inv=t.inv->t'.entry=t.entry->t'.walk.ok->(t'.pc=0\/t'.pc=2\/(t'.sec.wf n/\cu n t'.sec.lock.cells=1))->t'.wf n:=by
  intro t' e1 e2 e3 h1 h2
  refine ht.turn e1 e2 e3 ?_ (fun _=>⟨h1,h2⟩) ?_ ?_ ?_ ?_ ?_<;>intros<;>omega
 unfold oL at e ⊢
 split
 ·rename_i hc;rw [if_pos hc] at e;exact absurd e hc
 rename_i hc;rw [if_neg hc] at e
 split
 ·rename_i hp
  obtain ⟨h2,h3⟩:=abW ha.dv t.inv.home
  rw [ha.df] at h3
  have ho:=one_cell (n:=n) ht.su.n6.2 h2 h3 t.setup.limit ht.su.lim
  exact ⟨ha,.inr (keep _ rfl rfl rfl (Walk.abX _) (.inr (.inr ⟨ho.1,ho.2.1⟩))),by simp,fV _,rfl⟩
 rename_i hp0;rw [if_neg hp0] at e
 split
 ·rename_i hp;rw [if_pos hp] at e
  exact ⟨ha,.inr (keep _ rfl rfl rfl hw (.inr (.inr (Task.V5 ha ht hw.1 hw.2)))),by simp,fV _,rfl⟩
 rename_i hp2;rw [if_neg hp2] at e
 have hs:t.sec.wf n/\cu n t.sec.lock.cells=1:=by
  simp only [beq_iff_eq] at hp0 hp2
  rcases hpc with h|h|h<;>first|omega|exact h
 simp only at e ⊢
 split
 ·rename_i hd;rw [if_pos hd] at e;exact absurd e hd
 rename_i hd;rw [if_neg hd] at e
 obtain ⟨g1,s,g2,g3,g4,g5,g6⟩:=Task.go_wf ha hs.1 (k:=k) (Decidable.not_not.1 hd)
 have h1:cu n s.lock.cells=1:=by rw [g4];exact hs.2
 have hto:Task.wf n {t with sec:=s}:=keep _ rfl rfl rfl hw (.inr (.inr ⟨g3,h1⟩))
 generalize hy:t.go a k=y at*
 obtain ⟨y1,y2,y3,y4,y5⟩:=y
 simp only at g1 g2 g5 g6 e ⊢
 subst g2
 split
 ·rename_i hf
  obtain ⟨d1,d2,d3,d4⟩:=als hto hk hw g3 (g5 hf) h1 rfl
  exact ⟨g1,.inr d1,d3,by rw [d2];exact fV _,d4⟩
 ·split
  ·exact ⟨g1,.inr hto,by simp,fV _,rfl⟩
  ·split
   ·exact ⟨g1,Task.oV hto _ _,by simp,oW {t with sec:=s} _ _ (by simp),rfl⟩
   ·split
    ·exact ⟨g1,Task.oV hto _ _,by simp,oW {t with sec:=s} _ _ (by simp),rfl⟩
    ·split
     ·exact ⟨g1,Task.oV hto _ _,by simp,oW {t with sec:=s} _ _ (alr hto hk),rfl⟩
     ·exact ⟨g1,.inr (keep _ rfl rfl rfl hw (.inr (.inl rfl))),by simp,fV _,rfl⟩
end
end Go.Eng
namespace Go.Eng
open Go
section
variable {n:Nat} {a:aj} {t:Task} {k:Int}
theorem alv {b:List UInt8} (h:(tC b).2=0):(tC b).1.ok:=by
 unfold tC at h ⊢
 split
 ·rename_i x e;exact abE e
 ·rename_i e;rw [e] at h;cases h
theorem alx (ht:t.wf n) (hk:3<=t.inv.kind/\t.inv.kind<=5) (hr:0<=t.hnd.route/\t.hnd.route<65536) {s:av} (hs:s.wf n) (hp:s.phase=4) (h1:cu n s.lock.cells=1) (hts:t.sec=s):
 (l9 t).1.wf n/\(l9 t).1.results=t.results/\(l9 t).2.length<=2/\(l9 t).1.setup=t.setup:=by
 have hq:=(hs.q3 (by omega)).2
 have hl:=wZ n s.lock.cells
 have fin:∀ (o:bD),o.aN.length=1->o.dO=[]->(o.order=[]\/o.order=[0])->(t.dec o).wf n:=by
  intro o hsh hed ze
  have hd:=DF (n:=n) hs hp (o:=o) (by omega) (by simp [hed]) (by rcases ze with h|h<;>rw [h];exact w9;exact Np (by omega)) t hts
  refine ht.turn (t':=t.dec o) rfl rfl rfl ?_ ?_ (fun _ _=> .inr ⟨hr,.inr ⟨hd.1,by rw [hd.2];exact h1⟩⟩) ?_ ?_ ?_ ?_<;>intros<;>omega
 unfold l9
 simp only
 split
 ·exact ⟨fin _ (by simp [av.bg,hts,hq,h1]) rfl (.inl rfl),rfl,by simp,rfl⟩
 ·have ho:∀ (p:Prop) [Decidable p] (x:ak),(t.dec (if p then ({t.sec.bg with aN:=[x],order:=[0]}:bD) else t.sec.bg)).wf n:=by
   intro p _ x
   split
   ·exact fin _ rfl rfl (.inr rfl)
   ·exact fin _ (by simp [av.bg,hts,hq,h1]) rfl (.inl rfl)
  exact ⟨ho _ _,rfl,by simp,rfl⟩
theorem aly (ha:a.wf n) (ht:t.wf n) (hk:3<=t.inv.kind/\t.inv.kind<=5) (e:(mg a t k).2.2.2=0):mo n t (mg a t k):=by
 have hpc:=ht.k3 hk.1 hk.2
 have keep:∀ (t':Task),t'.setup=t.setup->t'.inv=t.inv->t'.entry=t.entry->(t'.pc=0\/((0<=t'.hnd.route/\t'.hnd.route<65536)/\(t'.pc=1\/(t'.sec.wf n/\cu n t'.sec.lock.cells=1))))->t'.wf n:=by
  intro t' e1 e2 e3 h2
  refine ht.turn e1 e2 e3 ?_ ?_ (fun _ _=>h2) ?_ ?_ ?_ ?_<;>intros<;>omega
 unfold mg at e ⊢
 split
 ·rename_i hc;rw [if_pos hc] at e;exact absurd e hc
 rename_i hc;rw [if_neg hc] at e
 split
 ·rename_i hp
  simp only at e ⊢
  split
  ·exact ⟨ha,Task.oV ht _ _,by simp,oW _ _ _ (by simp),rfl⟩
  ·rename_i hd
   have hh:=alv (Decidable.not_not.1 hd)
   obtain ⟨_,_,h3,h4⟩:=hh
   refine ⟨ha,?_,by simp,?_,by simp only;split<;>rfl⟩
   ·simp only
    right
    split
    ·rename_i hs
     rw [ht.su.sl] at hs
     have ho:=one_cell (n:=n) ht.su.n6.2 h4.1 hs t.setup.limit ht.su.lim
     exact keep _ rfl rfl rfl (.inr ⟨h3,.inr ⟨ho.1,ho.2.1⟩⟩)
    ·exact keep _ rfl rfl rfl (.inr ⟨h3,.inl rfl⟩)
   ·simp only
    split
    ·exact fV _
    ·exact fV _
 rename_i hp0;rw [if_neg hp0] at e
 simp only [beq_iff_eq] at hp0
 have hpc:=hpc.resolve_left hp0
 split
 ·rename_i hp;rw [if_pos hp] at e
  exact ⟨ha,.inr (keep _ rfl rfl rfl (.inr ⟨hpc.1,.inr (Task.V5 ha ht hpc.1.1 hpc.1.2)⟩)),by simp,fV _,rfl⟩
 rename_i hp1;rw [if_neg hp1] at e
 simp only [beq_iff_eq] at hp1
 have hs:=hpc.2.resolve_left hp1
 simp only at e ⊢
 split
 ·rename_i hd;rw [if_pos hd] at e;exact absurd e hd
 rename_i hd;rw [if_neg hd] at e
 obtain ⟨g1,s,g2,g3,g4,g5,g6⟩:=Task.go_wf ha hs.1 (k:=k) (Decidable.not_not.1 hd)
 have h1:cu n s.lock.cells=1:=by rw [g4];exact hs.2
 have hto:Task.wf n {t with sec:=s}:=keep _ rfl rfl rfl (.inr ⟨hpc.1,.inr ⟨g3,h1⟩⟩)
 generalize hy:t.go a k=y at*
 obtain ⟨y1,y2,y3,y4,y5⟩:=y
 simp only at g1 g2 g5 g6 e ⊢
 subst g2
 split
 ·rename_i hf
  obtain ⟨d1,d2,d3,d4⟩:=alx hto hk hpc.1 g3 (g5 hf) h1 rfl
  exact ⟨g1,.inr d1,d3,by rw [d2];exact fV _,d4⟩
 ·split
  ·exact ⟨g1,.inr hto,by simp,fV _,rfl⟩
  ·split
   ·exact ⟨g1,.inr (keep _ rfl rfl rfl (.inr ⟨hpc.1,.inl rfl⟩)),by simp,fV _,rfl⟩
   ·exact ⟨g1,Task.oV hto _ _,by simp,oW {t with sec:=s} _ _ (by simp),rfl⟩
theorem Be (ht:t.wf n) (hk:t.inv.kind=6\/t.inv.kind=7) (t':Task) (e1:t'.setup=t.setup) (e2:t'.inv=t.inv) (e3:t'.entry=t.entry):t'.wf n:=by
 refine ht.turn e1 e2 e3 ?_ ?_ ?_ ?_ ?_ ?_ ?_<;>intros<;>omega
theorem alz (ha:a.wf n) (ht:t.wf n) (hk:t.inv.kind=6) (e:(oM a t k).2.2.2=0):mo n t (oM a t k):=by
 unfold oM at e ⊢
 split
 ·rename_i hc;rw [if_pos hc] at e;exact absurd e hc
 rename_i hc;rw [if_neg hc] at e
 split
 ·simp only at e ⊢
  split
  ·exact ⟨ha,Task.oV (t:={t with loaded:=a.epoch}) (Be ht (.inl hk) _ rfl rfl rfl) _ _,by simp,oW {t with loaded:=a.epoch} _ _ (by simp),rfl⟩
  ·exact ⟨ha,.inr (Be ht (.inl hk) _ rfl rfl rfl),by simp,fV _,rfl⟩
 rename_i hp0;rw [if_neg hp0] at e
 simp only at e ⊢
 split
 ·rename_i hd;rw [if_pos hd] at e;exact absurd e hd
 rename_i hd;rw [if_neg hd] at e
 have hx:=aj.abQ ha (Decidable.not_not.1 hd)
 split
 ·exact ⟨hx,.inr (Be ht (.inl hk) _ rfl rfl rfl),by simp,fV _,rfl⟩
 ·exact ⟨hx,Task.oV ht _ _,by simp,oW _ _ _ (by simp),rfl⟩
theorem alA (ha:a.wf n) (ht:t.wf n) (hk:t.inv.kind=7) (e:(oN a t k).2.2.2=0):mo n t (oN a t k):=by
 have fr:=Be ht (.inr hk)
 unfold oN at e ⊢
 split
 ·rename_i hc;rw [if_pos hc] at e;exact absurd e hc
 rename_i hc;rw [if_neg hc] at e
 split
 ·exact ⟨ha,.inr (fr _ rfl rfl rfl),by simp,fV _,rfl⟩
 rename_i hp0;rw [if_neg hp0] at e
 split
 ·rename_i hp;rw [if_pos hp] at e
  simp only at e ⊢
  split
  ·rename_i hd;rw [if_pos hd] at e;exact absurd e hd
  ·refine ⟨ha,.inr ?_,by simp,?_,?_⟩<;>simp only<;>split<;>first|exact fr _ rfl rfl rfl|exact fV _|rfl
 rename_i hp1;rw [if_neg hp1] at e
 split
 ·rename_i hp;rw [if_pos hp] at e
  simp only at e ⊢
  split
  ·rename_i hd;rw [if_pos hd] at e;exact absurd e hd
  ·refine ⟨ha,.inr ?_,by simp,?_,?_⟩<;>simp only<;>split<;>first|exact fr _ rfl rfl rfl|exact fV _|rfl
 rename_i hp2;rw [if_neg hp2] at e
 split
 ·exact ⟨ha,.inr (fr _ rfl rfl rfl),by simp,fV _,rfl⟩
 ·exact ⟨ha,Task.oV ht _ _,by simp,oW _ _ _ (by simp),rfl⟩
theorem alB (ha:a.wf n) (ht:t.wf n) (hk:t.inv.kind=8) (e:(oO a t k).2.2.2=0):mo n t (oO a t k):=by
 have hpc:=ht.k8 hk
 have keep:∀ (t':Task),t'.setup=t.setup->t'.inv=t.inv->t'.entry=t.entry->(t'.pc=0\/(t'.sec.wf n/\cu n t'.sec.lock.cells=1/\t'.sec.lock.cells.length=2))->t'.wf n:=by
  intro t' e1 e2 e3 h2
  refine ht.turn e1 e2 e3 ?_ ?_ ?_ (fun _=>h2) ?_ ?_ ?_<;>intros<;>omega
 unfold oO at e ⊢
 split
 ·rename_i hc;rw [if_pos hc] at e;exact absurd e hc
 rename_i hc;rw [if_neg hc] at e
 split
 ·obtain ⟨h2,h3⟩:=abW ha.dv t.inv.home
  rw [ha.df] at h3
  have ho:=Nn (n:=n) (c:=qm a.dir t.inv.home) (d:=t.setup.slots) ht.su.n6.2 h2 (by rw [ht.su.sl];exact h3) (by rw [ht.su.sl];omega) t.setup.limit ht.su.lim
  refine ⟨ha,.inr (keep _ rfl rfl rfl (.inr ⟨ho.1,?_,?_⟩)),by simp,fV _,rfl⟩
  ·have:=ho.2.1;rw [if_neg (by rw [ht.su.sl];omega)] at this;exact this
  ·have:=ho.2.2
   simp only [Task.eU,this,List.length_cons,List.length_nil]
 rename_i hp0;rw [if_neg hp0] at e
 simp only [beq_iff_eq] at hp0
 have hs:=hpc.resolve_left hp0
 simp only at e ⊢
 split
 ·rename_i hd;rw [if_pos hd] at e;exact absurd e hd
 rename_i hd;rw [if_neg hd] at e
 obtain ⟨g1,s,g2,g3,g4,g5,g6⟩:=Task.go_wf ha hs.1 (k:=k) (Decidable.not_not.1 hd)
 have h1:cu n s.lock.cells=1:=by rw [g4];exact hs.2.1
 have h2:s.lock.cells.length=2:=by rw [g4];exact hs.2.2
 have hto:Task.wf n {t with sec:=s}:=keep _ rfl rfl rfl (.inr ⟨g3,h1,h2⟩)
 generalize hy:t.go a k=y at*
 obtain ⟨y1,y2,y3,y4,y5⟩:=y
 simp only at g1 g2 g5 g6 e ⊢
 subst g2
 split
 ·rename_i hf
  have hq:=(g3.q3 (by have:=g5 hf;omega)).2
  have fin:∀ (o:bD),o.aN.length=1->o.dO=[]->(o.order=[]\/o.order=[1,0])->(Task.dec {t with sec:=s} o).wf n:=by
   intro o hsh hed ze
   have hd:=DF (n:=n) g3 (g5 hf) (o:=o) (by omega) (by simp [hed]) (by rcases ze with h|h<;>rw [h];exact w9;exact ab4 h2) {t with sec:=s} rfl
   exact keep _ rfl rfl rfl (.inr ⟨hd.1,by rw [hd.2];exact h1,by rw [hd.2];exact h2⟩)
  have key:(mh {t with sec:=s}).1.wf n/\(mh {t with sec:=s}).1.results=t.results/\(mh {t with sec:=s}).2.length<=2/\(mh {t with sec:=s}).1.setup=t.setup:=by
   unfold mh
   simp only
   split
   ·exact ⟨fin _ (by simp [av.bg,hq,h1]) rfl (.inl rfl),rfl,by simp,rfl⟩
   ·split
    ·exact ⟨fin _ (by simp [av.bg,hq,h1]) rfl (.inl rfl),rfl,by simp,rfl⟩
    ·split
     ·exact ⟨fin _ (by simp [av.bg,hq,h1]) rfl (.inl rfl),rfl,by simp,rfl⟩
     ·exact ⟨fin _ rfl rfl (.inr rfl),rfl,by simp,rfl⟩
  exact ⟨g1,.inr key.1,key.2.2.1,by rw [key.2.1];exact fV _,key.2.2.2⟩
 ·split
  ·exact ⟨g1,.inr hto,by simp,fV _,rfl⟩
  ·split
   ·exact ⟨g1,.inr (keep _ rfl rfl rfl (.inl rfl)),by simp,fV _,rfl⟩
   ·exact ⟨g1,Task.oV hto _ _,by simp,oW {t with sec:=s} _ _ (by simp),rfl⟩
theorem V6 {plan:Task->qY} {lo hi:Int} {cells:Task->List Int} (K L:Nat) (ha:a.wf n) (ht:t.wf n)
 (hpc:t.pc=0\/(t.sec.wf n/\(cu n t.sec.lock.cells=K\/9<K)/\t.sec.lock.cells.length=L))
 (keep:∀ (t':Task),t'.setup=t.setup->t'.inv=t.inv->t'.entry=t.entry->(t'.sec.wf n/\(cu n t'.sec.lock.cells=K\/9<K)/\t'.sec.lock.cells.length=L)->t'.wf n)
 (hc:(av.new (cells t) t.setup.limit).1.wf n/\(cu n (av.new (cells t) t.setup.limit).1.lock.cells=K\/9<K)/\(av.new (cells t) t.setup.limit).1.lock.cells.length=L)
 (hp:∀ t':Task,t'.inv=t.inv->t'.sec.wf n->t'.sec.phase=4->(cu n t'.sec.lock.cells=K\/9<K)->t'.sec.lock.cells.length=L->(plan t').1.aN.length=t'.sec.aN.length/\(plan t').1.dO.length<=1/\jb t'.sec.lock.cells (plan t').1.order []=true)
 (hev:∀ t',(plan t').2.2.length<=2) (htk:∀ t',(plan t').2.1.tokens=[])
 (e:(jB plan lo hi cells a t k).2.2.2=0):mo n t (jB plan lo hi cells a t k):=by
 unfold jB at e ⊢
 split
 ·rename_i hc;rw [if_pos hc] at e;exact absurd e hc
 rename_i hg;rw [if_neg hg] at e
 simp only at e ⊢
 have key:∀ t1:Task,t1.setup=t.setup->t1.inv=t.inv->t1.entry=t.entry->t1.results=t.results->(t1.sec.wf n/\(cu n t1.sec.lock.cells=K\/9<K)/\t1.sec.lock.cells.length=L)->
  (if (t1.go a k).2.2.2.2≠0 then dN (t1.go a k).2.2.2.2 else if (t1.go a k).2.2.1=true then ((t1.go a k).1,(t1.go a k).2.1.dec (plan (t1.go a k).2.1).1,(plan (t1.go a k).2.1).2.2,0)
   else if (!(t1.go a k).2.2.2.1)=true then ((t1.go a k).1,(t1.go a k).2.1,[],0) else ((t1.go a k).1,(t1.go a k).2.1.next (plan (t1.go a k).2.1).2.1 k,[],(0:Int))).2.2.2=0->
  mo n t (if (t1.go a k).2.2.2.2≠0 then dN (t1.go a k).2.2.2.2 else if (t1.go a k).2.2.1=true then ((t1.go a k).1,(t1.go a k).2.1.dec (plan (t1.go a k).2.1).1,(plan (t1.go a k).2.1).2.2,0)
   else if (!(t1.go a k).2.2.2.1)=true then ((t1.go a k).1,(t1.go a k).2.1,[],0) else ((t1.go a k).1,(t1.go a k).2.1.next (plan (t1.go a k).2.1).2.1 k,[],(0:Int))):=by
  intro t1 q1 q2 q3 q4 hs e
  split
  ·rename_i hd;rw [if_pos hd] at e;exact absurd e hd
  rename_i hd;rw [if_neg hd] at e
  obtain ⟨g1,s,g2,g3,g4,g5,g6⟩:=Task.go_wf ha hs.1 (k:=k) (Decidable.not_not.1 hd)
  have h1:(cu n s.lock.cells=K\/9<K)/\s.lock.cells.length=L:=by rw [g4];exact hs.2
  have hto:Task.wf n {t1 with sec:=s}:=keep _ q1 q2 q3 ⟨g3,h1⟩
  generalize hy:t1.go a k=y at*
  obtain ⟨y1,y2,y3,y4,y5⟩:=y
  simp only at g1 g2 g5 g6 e ⊢
  subst g2
  split
  ·rename_i hf
   obtain ⟨p1,p2,p3⟩:=hp {t1 with sec:=s} q2 g3 (g5 hf) h1.1 h1.2
   have hd:=DF (n:=n) g3 (g5 hf) p1 p2 p3 {t1 with sec:=s} rfl
   exact ⟨g1,.inr (keep _ q1 q2 q3 ⟨hd.1,by rw [hd.2];exact h1⟩),hev _,by simp only [Task.dec,<-q4];exact fV _,q1⟩
  ·split
   ·exact ⟨g1,.inr hto,by simp,by simp only [<-q4];exact fV _,q1⟩
   ·refine ⟨g1,Task.oV hto _ _,by simp,?_,q1⟩
    have:=oW {t1 with sec:=s} (plan {t1 with sec:=s}).2.1 k (by rw [htk];simp)
    rw [<-q4]
    exact this
 by_cases h0:t.pc=0
 ·have e0:(if (t.pc==0)=true then t.eU (cells t) 1 else t)=t.eU (cells t) 1:=by rw [if_pos (by simp [h0])]
  rw [e0] at e ⊢
  exact key (t.eU (cells t) 1) rfl rfl rfl rfl hc e
 ·have e0:(if (t.pc==0)=true then t.eU (cells t) 1 else t)=t:=by rw [if_neg (by simp [h0])]
  rw [e0] at e ⊢
  exact key t rfl rfl rfl rfl (hpc.resolve_left h0) e
end
end Go.Eng
namespace Go.Eng
open Go
section
variable {n:Nat} {a:aj} {t:Task} {k:Int}
theorem V7 (t:Task) (x y:ak):(placed t x y).length=2:=by unfold placed;split<;>rfl
theorem alC (t:Task) {cells:List Int} (h:cells.length=2):jb cells (iL t) []=true:=by unfold iL;split;exact ab3 h;exact ab4 h
theorem zf (ht:t.wf n) (hk:9<=t.inv.kind/\t.inv.kind<=11):(av.new (pairT t) t.setup.limit).1.wf n/\(cu n (av.new (pairT t) t.setup.limit).1.lock.cells=2\/9<2)/\(av.new (pairT t) t.setup.limit).1.lock.cells.length=2:=by
 have hv:=ht.iv
 have hn:=ht.su.n6
 have hs:=ht.su.sl
 unfold bM.val at hv
 have hw:IntKind.i64.wrap (t.setup.slots - 1)=t.setup.slots - 1:=bE (by omega)
 have h0:¬ t.inv.kind=1:=by omega
 have h1:¬ (t.inv.kind=2\/t.inv.kind=8):=by omega
 have h2:¬ (t.inv.kind=3\/t.inv.kind=4\/t.inv.kind=5):=by omega
 have h3:t.inv.kind=9\/t.inv.kind=10\/t.inv.kind=11:=by omega
 simp only [beq_iff_eq,Bool.or_eq_true,h0,h1,h2,h3,if_false,if_true,hw] at hv
 clear h0 h1 h2 h3
 split at hv
 ·cases hv
 rename_i hx
 simp [dP] at hx
 obtain ⟨⟨a1,a2⟩,⟨b1,b2⟩,c⟩:=hx
 have:=Nn (n:=n) (c:=min t.inv.bq t.inv.to) (d:=max t.inv.bq t.inv.to) hn.2 (by omega) (by omega) (by omega) t.setup.limit ht.su.lim
 refine ⟨this.1,.inl ?_,?_⟩
 ·have h:=this.2.1
  rw [if_pos (by omega)] at h
  exact h
 ·have h:=this.2.2
  simp only [pairT,jc]
  rw [h];rfl
theorem V8 {plan:Task->qY} {lo hi:Int} (ha:a.wf n) (ht:t.wf n) (hk:9<=t.inv.kind/\t.inv.kind<=11)
 (hp:∀ t':Task,t'.sec.aN.length=2->(plan t').1.aN.length=2/\(plan t').1.dO.length<=1/\((plan t').1.order=[]\/(plan t').1.order=iL t'))
 (hev:∀ t',(plan t').2.2.length<=2) (htk:∀ t',(plan t').2.1.tokens=[])
 (e:(jB plan lo hi pairT a t k).2.2.2=0):mo n t (jB plan lo hi pairT a t k):=by
 refine V6 2 2 ha ht ?_ ?_ (zf ht hk) ?_ hev htk e
 ·rcases ht.k9 hk.1 hk.2 with h|h
  ·exact .inl h
  ·exact .inr ⟨h.1,.inl h.2.1,h.2.2⟩
 ·intro t' e1 e2 e3 h
  refine ht.turn e1 e2 e3 ?_ ?_ ?_ ?_ (fun _ _=> .inr ⟨h.1,by omega,h.2.2⟩) ?_ ?_<;>intros<;>omega
 ·intro t' _ hs hph hK hL
  have hq:=(hs.q3 (by omega)).2
  obtain ⟨h1,h2,h3⟩:=hp t' (by omega)
  refine ⟨by omega,h2,?_⟩
  rcases h3 with h3|h3<;>rw [h3]
  ·exact w9
  ·exact alC t' hL
theorem V9 (ht:t.wf n) (hk:t.inv.kind=12\/t.inv.kind=13):0<=t.inv.bq/\t.inv.bq<=n:=by
 have hv:=ht.iv
 have hn:=ht.su.n6
 have hs:=ht.su.sl
 unfold bM.val at hv
 have hw:IntKind.i64.wrap (t.setup.slots - 1)=t.setup.slots - 1:=bE (by omega)
 rcases hk with h|h
 ·simp [h,hw,dP] at hv;omega
 ·simp [h,hw,dP] at hv;omega
theorem ab6 (ht:t.wf n) (hk:t.inv.kind=14):0<=t.inv.bq/\t.inv.bq<n:=by
 have hv:=ht.iv
 have hn:=ht.su.n6
 have hs:=ht.su.sl
 unfold bM.val at hv
 have hw:IntKind.i64.wrap (t.setup.slots - 1)=t.setup.slots - 1:=bE (by omega)
 simp [hk,hw,dP] at hv;omega
theorem alD (ha:a.wf n) (ht:t.wf n) (hk:t.inv.kind=12\/t.inv.kind=13) (e:(wY a t k).2.2.2=0):mo n t (wY a t k):=by
 obtain ⟨c1,c2⟩:=V9 ht hk
 have hl:=ab2 ht.su.n6.2 c1 c2 t.setup.limit ht.su.lim
 refine V6 10 1 ha ht ?_ ?_ ⟨hl.1,.inr (by omega),by rw [hl.2];rfl⟩ ?_ ?_ ?_ e
 ·rcases ht.k12 hk with h|h
  ·exact .inl h
  ·exact .inr ⟨h.1,.inr (by omega),h.2⟩
 ·intro t' e1 e2 e3 h
  refine ht.turn e1 e2 e3 ?_ ?_ ?_ ?_ ?_ (fun _=> .inr ⟨h.1,h.2.2⟩) ?_<;>intros<;>omega
 ·intro t' _ hs hph _ hL
  have hq:=(hs.q3 (by omega)).2
  have hle:=wZ n t'.sec.lock.cells
  have fin:∀ o:bD,o.aN.length=t'.sec.aN.length->o.dO=[]->(o.order=[]\/o.order=[0])->o.aN.length=t'.sec.aN.length/\o.dO.length<=1/\jb t'.sec.lock.cells o.order []=true:=by
   intro o h1 h2 h3
   refine ⟨h1,by simp [h2],?_⟩
   rcases h3 with h3|h3<;>rw [h3]
   ·exact w9
   ·exact Np (by omega)
  unfold oP
  simp only
  split
  ·simp only
   split
   ·exact fin _ rfl rfl (.inr rfl)
   ·exact fin _ rfl rfl (.inl rfl)
  ·rename_i h0
   have h1:t'.sec.aN.length=1:=by omega
   split
   ·exact fin _ rfl rfl (.inl rfl)
   ·split
    ·simp only
     split
     ·exact fin _ (by simp [h1]) rfl (.inr rfl)
     ·exact fin _ rfl rfl (.inl rfl)
    ·split
     ·exact fin _ rfl rfl (.inl rfl)
     ·exact fin _ (by simp [h1]) rfl (.inr rfl)
 ·intro t'
  unfold oP
  simp only
  repeat' split
  all_goals simp
 ·intro t'
  unfold oP
  simp only
  repeat' split
  all_goals rfl
theorem alE (ha:a.wf n) (ht:t.wf n) (hk:t.inv.kind=14) (e:(za a t k).2.2.2=0):mo n t (za a t k):=by
 obtain ⟨c1,c2⟩:=ab6 ht hk
 have hl:=Nn (n:=n) (c:=t.inv.bq) (d:=t.setup.slots) ht.su.n6.2 c1 (by rw [ht.su.sl];exact c2) (by rw [ht.su.sl];omega) t.setup.limit ht.su.lim
 refine V6 1 2 ha ht ?_ ?_ ⟨hl.1,.inl ?_,by rw [hl.2.2];rfl⟩ ?_ ?_ ?_ e
 ·rcases ht.k14 hk with h|h
  ·exact .inl h
  ·exact .inr ⟨h.1,.inl h.2.1,h.2.2⟩
 ·intro t' e1 e2 e3 h
  refine ht.turn e1 e2 e3 ?_ ?_ ?_ ?_ ?_ ?_ (fun _=> .inr ⟨h.1,by omega,h.2.2⟩)<;>intros<;>omega
 ·have h:=hl.2.1;rw [if_neg (by rw [ht.su.sl];omega)] at h;exact h
 ·intro t' _ hs hph hK hL
  have hq:=(hs.q3 (by omega)).2
  unfold oQ
  simp only
  split
  ·exact ⟨rfl,by simp [av.bg],w9⟩
  ·split
   ·exact ⟨rfl,by simp [av.bg],w9⟩
   ·exact ⟨by simp only [List.length_cons,List.length_nil];omega,by simp,ab3 hL⟩
 ·intro t'
  unfold oQ
  simp only
  repeat' split
  all_goals simp
 ·intro t'
  unfold oQ
  simp only
  repeat' split
  all_goals rfl
theorem alF (ha:a.wf n) (ht:t.wf n) (hk:t.inv.kind=9) (e:(y7 a t k).2.2.2=0):mo n t (y7 a t k):=by
 refine V8 ha ht (by omega) (fun t' h=> ?_) (fun t'=> ?_) (fun t'=> ?_) e<;>unfold qZ<;>simp only<;>repeat' split
 all_goals first|exact ⟨h,by simp [av.bg],.inl rfl⟩|exact ⟨V7 _ _ _,by simp,.inr rfl⟩|simp
theorem alG (ha:a.wf n) (ht:t.wf n) (hk:t.inv.kind=10) (e:(y8 a t k).2.2.2=0):mo n t (y8 a t k):=by
 refine V8 ha ht (by omega) (fun t' h=> ?_) (fun t'=> ?_) (fun t'=> ?_) e<;>unfold rf<;>simp only<;>repeat' split
 all_goals first|exact ⟨h,by simp [av.bg],.inl rfl⟩|exact ⟨V7 _ _ _,by simp,.inr rfl⟩|simp
theorem alH (ha:a.wf n) (ht:t.wf n) (hk:t.inv.kind=11) (e:(y9 a t k).2.2.2=0):mo n t (y9 a t k):=by
 refine V8 ha ht (by omega) (fun t' h=> ?_) (fun t'=> ?_) (fun t'=> ?_) e<;>unfold rq<;>simp only<;>repeat' split
 all_goals first|exact ⟨h,by simp [av.bg],.inl rfl⟩|exact ⟨V7 _ _ _,by simp,.inr rfl⟩|simp
theorem ab7 (ha:a.wf n) (ht:t.wf n) (hd:t.dn=false) (e:(eX a t k).2.2.2=0):mo n t (eX a t k):=by
 unfold eX at e ⊢
 rw [if_neg (by simp [hd])] at e ⊢
 split
 ·rename_i h;rw [if_pos h] at e;exact alq ha ht (by simpa using h) e
 rename_i h;rw [if_neg h] at e;clear h
 split
 ·rename_i h;rw [if_pos h] at e;exact alu ha ht (by simpa using h) e
 rename_i h;rw [if_neg h] at e;clear h
 split
 ·rename_i h;rw [if_pos h] at e;exact aly ha ht (by simp at h;omega) e
 rename_i h;rw [if_neg h] at e;clear h
 split
 ·rename_i h;rw [if_pos h] at e;exact alz ha ht (by simpa using h) e
 rename_i h;rw [if_neg h] at e;clear h
 split
 ·rename_i h;rw [if_pos h] at e;exact alA ha ht (by simpa using h) e
 rename_i h;rw [if_neg h] at e;clear h
 split
 ·rename_i h;rw [if_pos h] at e;exact alB ha ht (by simpa using h) e
 rename_i h;rw [if_neg h] at e;clear h
 split
 ·rename_i h;rw [if_pos h] at e;exact alF ha ht (by simpa using h) e
 rename_i h;rw [if_neg h] at e;clear h
 split
 ·rename_i h;rw [if_pos h] at e;exact alG ha ht (by simpa using h) e
 rename_i h;rw [if_neg h] at e;clear h
 split
 ·rename_i h;rw [if_pos h] at e;exact alH ha ht (by simpa using h) e
 rename_i h;rw [if_neg h] at e;clear h
 split
 ·rename_i h;rw [if_pos h] at e;exact alD ha ht (by simpa using h) e
 rename_i h;rw [if_neg h] at e;clear h
 split
 ·rename_i h;rw [if_pos h] at e;exact alE ha ht (by simpa using h) e
 rename_i h;rw [if_neg h] at e;cases e
end
end Go.Eng
