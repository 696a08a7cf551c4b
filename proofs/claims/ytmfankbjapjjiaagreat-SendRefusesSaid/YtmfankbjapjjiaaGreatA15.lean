/-
  Part of a proof: lemmas and definitions of this work.
  No condition.
-/
import Derived.Test.YtmfankbjapjjiaaGreatA08
import Derived.Test.YtmfankbjapjjiaaGreatA14
set_option linter.all false
set_option maxRecDepth 100000
set_option maxHeartbeats 8000000
namespace Go.Eng
open Go
section
variable {n:Nat} {a:aj} {t:Task} {k:Int}
theorem alO (ht:t.wf n) (hk:t.inv.kind=1) (hw:t.walk.ok) {s:av} (hs:s.wf n) (hp:s.phase=4) (h1:cu n s.lock.cells=1) (hts:t.sec=s):
 (mo t).1.wf n/\(mo t).1.results=t.results/\(mo t).2.length<=2/\(mo t).1.setup=t.setup:=by
 have hq:=(hs.q3 (by omega)).2
 have hl:=xg n s.lock.cells
 have fin:∀ (t':Task) (o:bE),t'.setup=t.setup->t'.inv=t.inv->t'.entry=t.entry->t'.walk.ok->t'.sec=s->o.aN.length=1->o.dP=[]->(o.order=[]\/o.order=[0])->(t'.dec o).wf n:=by
  intro t' o e1 e2 e3 hw' V8 hsh hed y7
  have hd:=Kg (n:=n) hs hp (o:=o) (by omega) (by simp [hed]) (by rcases y7 with h|h<;>rw [h];exact xh;exact Nq (by omega)) t' V8
  refine ht.turn (t':=t'.dec o) e1 e2 e3 (fun _=>⟨hw',.inr (.inr (.inr ⟨hd.1,by rw [hd.2];exact h1⟩))⟩) ?_ ?_ ?_ ?_ ?_ ?_<;>intros<;>omega
 unfold mo
 simp only
 split
 ·exact ⟨fin _ _ rfl rfl rfl hw hts (by simp [av.bg,hts,hq,h1]) rfl (.inl rfl),rfl,by simp,rfl⟩
 ·split
  ·split
   ·exact ⟨fin _ _ rfl rfl rfl (Walk.Kc _ _ _) hts (by simp [av.bg,hts,hq,h1]) rfl (.inl rfl),rfl,by simp,rfl⟩
   ·exact ⟨fin _ _ rfl rfl rfl (Walk.Kc _ _ _) hts (by simp [av.bg,hts,hq,h1]) rfl (.inl rfl),rfl,by simp,rfl⟩
  ·exact ⟨fin _ _ rfl rfl rfl hw hts (by simp) (by simp [av.bg]) (.inr rfl),rfl,by simp,rfl⟩
theorem Task.V9 (ha:a.wf n) (ht:t.wf n) {r pc:Int} (h0:0<=r) (h1:r<65536):(t.look a r pc).sec.wf n/\cu n (t.look a r pc).sec.lock.cells=1:=by
 obtain ⟨h2,h3⟩:=a.dir.acB ha.dv h0 h1
 rw [ha.df] at h3
 have:=one_cell (n:=n) ht.su.n6.2 h2 h3 t.setup.limit ht.su.lim
 exact ⟨this.1,this.2.1⟩
theorem alP (ha:a.wf n) (ht:t.wf n) (hk:t.inv.kind=1) (e:(oH a t k).2.2.2=0):mE n t (oH a t k):=by
 obtain ⟨hw,hpc⟩:=ht.k1 hk
 have keep:∀ (t':Task),t'.setup=t.setup->t'.inv=t.inv->t'.entry=t.entry->t'.walk.ok->(t'.pc=0\/t'.pc=1\/t'.pc=2\/(t'.sec.wf n/\cu n t'.sec.lock.cells=1))->t'.wf n:=by
  intro t' e1 e2 e3 h1 h2
  refine ht.turn e1 e2 e3 (fun _=>⟨h1,h2⟩) ?_ ?_ ?_ ?_ ?_ ?_<;>intros<;>omega
 unfold oH at e ⊢
 split
 ·rename_i hc;rw [if_pos hc] at e;exact absurd e hc
 rename_i hc;rw [if_neg hc] at e
 split
 ·rename_i hp
  simp only at e ⊢
  split
  ·refine ⟨ha,Task.oP (t:={t with loaded:=a.fA}) (keep _ rfl rfl rfl hw hpc) _ _,by simp,oQ {t with loaded:=a.fA} _ _ (by simp),rfl⟩
  ·exact ⟨ha,.inr (keep _ rfl rfl rfl hw (.inr (.inl rfl))),by simp,fZ _,rfl⟩
 rename_i hp0;rw [if_neg hp0] at e
 split
 ·rename_i hp;rw [if_pos hp] at e
  simp only at e ⊢
  split
  ·rename_i hd;rw [if_pos hd] at e;exact absurd e hd
  ·rename_i hd;rw [if_neg hd] at e
   have hx:=aj.acw ha (Decidable.not_not.1 hd)
   split
   ·exact ⟨hx,.inr (keep _ rfl rfl rfl (Walk.acE _) (.inr (.inr (.inl rfl)))),by simp,fZ _,rfl⟩
   ·exact ⟨hx,.inr (keep _ rfl rfl rfl hw (.inl rfl)),by simp,fZ _,rfl⟩
 rename_i hp1;rw [if_neg hp1] at e
 split
 ·rename_i hp;rw [if_pos hp] at e
  exact ⟨ha,.inr (keep _ rfl rfl rfl hw (.inr (.inr (.inr (Task.V9 ha ht hw.1 hw.2))))),by simp,fZ _,rfl⟩
 rename_i hp2;rw [if_neg hp2] at e
 have hs:t.sec.wf n/\cu n t.sec.lock.cells=1:=by
  simp only [beq_iff_eq] at hp0 hp1 hp2
  rcases hpc with h|h|h|h<;>first|omega|exact h
 simp only at e ⊢
 split
 ·rename_i hd;rw [if_pos hd] at e;exact absurd e hd
 rename_i hd;rw [if_neg hd] at e
 obtain ⟨g1,s,g2,g3,g4,g5,g6⟩:=Task.go_wf ha hs.1 (k:=k) (Decidable.not_not.1 hd)
 have h1:cu n s.lock.cells=1:=by rw [g4];exact hs.2
 have hto:Task.wf n {t with sec:=s}:=keep _ rfl rfl rfl hw (.inr (.inr (.inr ⟨g3,h1⟩)))
 generalize hy:t.go a k=y at*
 obtain ⟨y1,y2,y3,y4,y5⟩:=y
 simp only at g1 g2 g5 g6 e ⊢
 subst g2
 split
 ·rename_i hf
  obtain ⟨d1,d2,d3,d4⟩:=alO hto hk hw g3 (g5 hf) h1 rfl
  exact ⟨g1,.inr d1,d3,by rw [d2];exact fZ _,d4⟩
 ·split
  ·exact ⟨g1,.inr hto,by simp,fZ _,rfl⟩
  ·split
   ·exact ⟨g1,Task.oP hto _ _,by simp,oQ {t with sec:=s} _ _ (by simp),rfl⟩
   ·split
    ·exact ⟨g1,Task.oP hto _ _,by simp,oQ {t with sec:=s} _ _ (by simp),rfl⟩
    ·exact ⟨g1,.inr (keep _ rfl rfl rfl hw (.inr (.inr (.inl rfl)))),by simp,fZ _,rfl⟩
theorem Nr (mx dl ep li:Int):∀ (l:List ai) (s:ak) (out:List Lease),(out.length:Int)<=mx->((oF mx dl ep li l s out).2.length:Int)<=mx
 |[],s,out,h=>h
 |m::r,s,out,h=>by
  simp only [oF]
  split
  ·split
   ·exact Nr mx dl ep li r _ _ (by simp;omega)
   ·exact Nr mx dl ep li r _ _ h
  ·exact h
theorem ak.take_len (s:ak) (mx now bC ep li:Int) (h:1<=mx):((s.take mx now bC ep li).2.1.length:Int)<=mx:=by
 unfold ak.take
 split
 ·simp only [List.length_nil];omega
 ·split
  ·simp only [List.length_nil];omega
  ·split
   ·simp only [List.length_nil];omega
   ·exact Nr _ _ _ _ _ _ _ (by simp;omega)
theorem alQ (ht:t.wf n) (hk:t.inv.kind=2):(yU t).tokens.length<=6:=by
 have hv:=ht.iv
 unfold bJ.val at hv
 simp [hk,dQ] at hv
 have:=ak.take_len ((dZ t.sec.aN 0).expire t.sec.aJ.clock t.sec.aJ.epoch t.setup.limit).1 t.inv.max_ t.sec.aJ.clock t.inv.bC t.sec.aJ.epoch t.setup.limit (by omega)
 simp [yU,kG]
 omega
theorem alR (ht:t.wf n) (hk:t.inv.kind=2) (hw:t.walk.ok) {s:av} (hs:s.wf n) (hp:s.phase=4) (h1:cu n s.lock.cells=1) (hts:t.sec=s):
 (jV t).1.wf n/\(jV t).1.results=t.results/\(jV t).2.length<=2/\(jV t).1.setup=t.setup:=by
 have hq:=(hs.q3 (by omega)).2
 have hl:=xg n s.lock.cells
 have fin:∀ (t':Task) (o:bE),t'.setup=t.setup->t'.inv=t.inv->t'.entry=t.entry->t'.walk.ok->t'.sec=s->o.aN.length=1->o.dP=[]->(o.order=[]\/o.order=[0])->(t'.dec o).wf n:=by
  intro t' o e1 e2 e3 hw' V8 hsh hed y7
  have hd:=Kg (n:=n) hs hp (o:=o) (by omega) (by simp [hed]) (by rcases y7 with h|h<;>rw [h];exact xh;exact Nq (by omega)) t' V8
  refine ht.turn (t':=t'.dec o) e1 e2 e3 ?_ (fun _=>⟨hw',.inr (.inr ⟨hd.1,by rw [hd.2];exact h1⟩)⟩) ?_ ?_ ?_ ?_ ?_<;>intros<;>omega
 unfold jV
 simp only
 split
 ·exact ⟨fin _ _ rfl rfl rfl hw hts (by simp [av.bg,hts,hq,h1]) rfl (.inl rfl),rfl,by simp,rfl⟩
 ·split
  ·exact ⟨fin _ _ rfl rfl rfl hw hts (by simp [av.bg,hts,hq,h1]) rfl (.inl rfl),rfl,by simp,rfl⟩
  ·have ho:∀ (p:Prop) [Decidable p] (x:ak),(if p then ({t.sec.bg with aN:=[x],order:=[0]}:bE) else t.sec.bg).aN.length=1/\
    (if p then ({t.sec.bg with aN:=[x],order:=[0]}:bE) else t.sec.bg).dP=[]/\
    ((if p then ({t.sec.bg with aN:=[x],order:=[0]}:bE) else t.sec.bg).order=[]\/(if p then ({t.sec.bg with aN:=[x],order:=[0]}:bE) else t.sec.bg).order=[0]):=by
    intro p _ x
    split
    ·exact ⟨rfl,rfl,.inr rfl⟩
    ·exact ⟨by simp [av.bg,hts,hq,h1],rfl,.inl rfl⟩
   have he:∀ (p:Prop) [Decidable p] (v:Ev),(if p then [v] else []).length<=1:=by
    intro p _ v;split<;>simp
   split
   ·exact ⟨fin _ _ rfl rfl rfl (Walk.Kc _ _ _) hts (ho _ _).1 (ho _ _).2.1 (ho _ _).2.2,rfl,by simp only;split<;>simp,rfl⟩
   ·split
    ·exact ⟨fin _ _ rfl rfl rfl (Walk.Kc _ _ _) hts (ho _ _).1 (ho _ _).2.1 (ho _ _).2.2,rfl,by simp only;split<;>simp,rfl⟩
    ·exact ⟨fin _ _ rfl rfl rfl (Walk.Kc _ _ _) hts (ho _ _).1 (ho _ _).2.1 (ho _ _).2.2,rfl,by simp only;split<;>simp,rfl⟩
theorem alS (ha:a.wf n) (ht:t.wf n) (hk:t.inv.kind=2) (e:(oI a t k).2.2.2=0):mE n t (oI a t k):=by
 obtain ⟨hw,hpc⟩:=ht.k2 hk
 have keep:∀ (t':Task),t'.setup=t.setup->t'.inv=t.inv->t'.entry=t.entry->t'.walk.ok->(t'.pc=0\/t'.pc=2\/(t'.sec.wf n/\cu n t'.sec.lock.cells=1))->t'.wf n:=by
  intro t' e1 e2 e3 h1 h2
  refine ht.turn e1 e2 e3 ?_ (fun _=>⟨h1,h2⟩) ?_ ?_ ?_ ?_ ?_<;>intros<;>omega
 unfold oI at e ⊢
 split
 ·rename_i hc;rw [if_pos hc] at e;exact absurd e hc
 rename_i hc;rw [if_neg hc] at e
 split
 ·rename_i hp
  obtain ⟨h2,h3⟩:=acD ha.dv t.inv.home
  rw [ha.df] at h3
  have ho:=one_cell (n:=n) ht.su.n6.2 h2 h3 t.setup.limit ht.su.lim
  exact ⟨ha,.inr (keep _ rfl rfl rfl (Walk.acE _) (.inr (.inr ⟨ho.1,ho.2.1⟩))),by simp,fZ _,rfl⟩
 rename_i hp0;rw [if_neg hp0] at e
 split
 ·rename_i hp;rw [if_pos hp] at e
  exact ⟨ha,.inr (keep _ rfl rfl rfl hw (.inr (.inr (Task.V9 ha ht hw.1 hw.2)))),by simp,fZ _,rfl⟩
 rename_i hp2;rw [if_neg hp2] at e
 have hs:t.sec.wf n/\cu n t.sec.lock.cells=1:=by
  simp only [beq_iff_eq] at hp0 hp2
  rcases hpc with h|h|h<;>first|omega|exact h
 simp only at e ⊢
 split
 ·rename_i hd;rw [if_pos hd] at e;exact absurd e hd
 rename_i hd;rw [if_neg hd] at e
 obtain ⟨g1,s,g2,g3,g4,g5,g6⟩:=Task.go_wf ha hs.1 (k:=k) (Decidable.not_not.1 hd)
 have h1:cu n s.lock.cells=1:=by rw [g4];exact hs.2
 have hto:Task.wf n {t with sec:=s}:=keep _ rfl rfl rfl hw (.inr (.inr ⟨g3,h1⟩))
 generalize hy:t.go a k=y at*
 obtain ⟨y1,y2,y3,y4,y5⟩:=y
 simp only at g1 g2 g5 g6 e ⊢
 subst g2
 split
 ·rename_i hf
  obtain ⟨d1,d2,d3,d4⟩:=alR hto hk hw g3 (g5 hf) h1 rfl
  exact ⟨g1,.inr d1,d3,by rw [d2];exact fZ _,d4⟩
 ·split
  ·exact ⟨g1,.inr hto,by simp,fZ _,rfl⟩
  ·split
   ·exact ⟨g1,Task.oP hto _ _,by simp,oQ {t with sec:=s} _ _ (by simp),rfl⟩
   ·split
    ·exact ⟨g1,Task.oP hto _ _,by simp,oQ {t with sec:=s} _ _ (by simp),rfl⟩
    ·split
     ·exact ⟨g1,Task.oP hto _ _,by simp,oQ {t with sec:=s} _ _ (alQ hto hk),rfl⟩
     ·exact ⟨g1,.inr (keep _ rfl rfl rfl hw (.inr (.inl rfl))),by simp,fZ _,rfl⟩
end
end Go.Eng
namespace Go.Eng
open Go
section
variable {n:Nat} {a:aj} {t:Task} {k:Int}
theorem alT {b:List UInt8} (h:(sW b).2=0):(sW b).1.ok:=by
 unfold sW at h ⊢
 split
 ·rename_i x e;exact acf e
 ·rename_i e;rw [e] at h;cases h
theorem alU (ht:t.wf n) (hk:3<=t.inv.kind/\t.inv.kind<=5) (hr:0<=t.hnd.route/\t.hnd.route<65536) {s:av} (hs:s.wf n) (hp:s.phase=4) (h1:cu n s.lock.cells=1) (hts:t.sec=s):
 (mq t).1.wf n/\(mq t).1.results=t.results/\(mq t).2.length<=2/\(mq t).1.setup=t.setup:=by
 have hq:=(hs.q3 (by omega)).2
 have hl:=xg n s.lock.cells
 have fin:∀ (o:bE),o.aN.length=1->o.dP=[]->(o.order=[]\/o.order=[0])->(t.dec o).wf n:=by
  intro o hsh hed y7
  have hd:=Kg (n:=n) hs hp (o:=o) (by omega) (by simp [hed]) (by rcases y7 with h|h<;>rw [h];exact xh;exact Nq (by omega)) t hts
  refine ht.turn (t':=t.dec o) rfl rfl rfl ?_ ?_ (fun _ _=> .inr ⟨hr,.inr ⟨hd.1,by rw [hd.2];exact h1⟩⟩) ?_ ?_ ?_ ?_<;>intros<;>omega
 unfold mq
 simp only
 split
 ·exact ⟨fin _ (by simp [av.bg,hts,hq,h1]) rfl (.inl rfl),rfl,by simp,rfl⟩
 ·have ho:∀ (p:Prop) [Decidable p] (x:ak),(t.dec (if p then ({t.sec.bg with aN:=[x],order:=[0]}:bE) else t.sec.bg)).wf n:=by
   intro p _ x
   split
   ·exact fin _ rfl rfl (.inr rfl)
   ·exact fin _ (by simp [av.bg,hts,hq,h1]) rfl (.inl rfl)
  exact ⟨ho _ _,rfl,by simp,rfl⟩
theorem alV (ha:a.wf n) (ht:t.wf n) (hk:3<=t.inv.kind/\t.inv.kind<=5) (e:(mr a t k).2.2.2=0):mE n t (mr a t k):=by
 have hpc:=ht.k3 hk.1 hk.2
 have keep:∀ (t':Task),t'.setup=t.setup->t'.inv=t.inv->t'.entry=t.entry->(t'.pc=0\/((0<=t'.hnd.route/\t'.hnd.route<65536)/\(t'.pc=1\/(t'.sec.wf n/\cu n t'.sec.lock.cells=1))))->t'.wf n:=by
  intro t' e1 e2 e3 h2
  refine ht.turn e1 e2 e3 ?_ ?_ (fun _ _=>h2) ?_ ?_ ?_ ?_<;>intros<;>omega
 unfold mr at e ⊢
 split
 ·rename_i hc;rw [if_pos hc] at e;exact absurd e hc
 rename_i hc;rw [if_neg hc] at e
 split
 ·rename_i hp
  simp only at e ⊢
  split
  ·exact ⟨ha,Task.oP ht _ _,by simp,oQ _ _ _ (by simp),rfl⟩
  ·rename_i hd
   have hh:=alT (Decidable.not_not.1 hd)
   obtain ⟨_,_,h3,h4⟩:=hh
   refine ⟨ha,?_,by simp,?_,by simp only;split<;>rfl⟩
   ·simp only
    right
    split
    ·rename_i hs
     rw [ht.su.sl] at hs
     have ho:=one_cell (n:=n) ht.su.n6.2 h4.1 hs t.setup.limit ht.su.lim
     exact keep _ rfl rfl rfl (.inr ⟨h3,.inr ⟨ho.1,ho.2.1⟩⟩)
    ·exact keep _ rfl rfl rfl (.inr ⟨h3,.inl rfl⟩)
   ·simp only
    split
    ·exact fZ _
    ·exact fZ _
 rename_i hp0;rw [if_neg hp0] at e
 simp only [beq_iff_eq] at hp0
 have hpc:=hpc.resolve_left hp0
 split
 ·rename_i hp;rw [if_pos hp] at e
  exact ⟨ha,.inr (keep _ rfl rfl rfl (.inr ⟨hpc.1,.inr (Task.V9 ha ht hpc.1.1 hpc.1.2)⟩)),by simp,fZ _,rfl⟩
 rename_i hp1;rw [if_neg hp1] at e
 simp only [beq_iff_eq] at hp1
 have hs:=hpc.2.resolve_left hp1
 simp only at e ⊢
 split
 ·rename_i hd;rw [if_pos hd] at e;exact absurd e hd
 rename_i hd;rw [if_neg hd] at e
 obtain ⟨g1,s,g2,g3,g4,g5,g6⟩:=Task.go_wf ha hs.1 (k:=k) (Decidable.not_not.1 hd)
 have h1:cu n s.lock.cells=1:=by rw [g4];exact hs.2
 have hto:Task.wf n {t with sec:=s}:=keep _ rfl rfl rfl (.inr ⟨hpc.1,.inr ⟨g3,h1⟩⟩)
 generalize hy:t.go a k=y at*
 obtain ⟨y1,y2,y3,y4,y5⟩:=y
 simp only at g1 g2 g5 g6 e ⊢
 subst g2
 split
 ·rename_i hf
  obtain ⟨d1,d2,d3,d4⟩:=alU hto hk hpc.1 g3 (g5 hf) h1 rfl
  exact ⟨g1,.inr d1,d3,by rw [d2];exact fZ _,d4⟩
 ·split
  ·exact ⟨g1,.inr hto,by simp,fZ _,rfl⟩
  ·split
   ·exact ⟨g1,.inr (keep _ rfl rfl rfl (.inr ⟨hpc.1,.inl rfl⟩)),by simp,fZ _,rfl⟩
   ·exact ⟨g1,Task.oP hto _ _,by simp,oQ {t with sec:=s} _ _ (by simp),rfl⟩
theorem DL (ht:t.wf n) (hk:t.inv.kind=6\/t.inv.kind=7) (t':Task) (e1:t'.setup=t.setup) (e2:t'.inv=t.inv) (e3:t'.entry=t.entry):t'.wf n:=by
 refine ht.turn e1 e2 e3 ?_ ?_ ?_ ?_ ?_ ?_ ?_<;>intros<;>omega
theorem alW (ha:a.wf n) (ht:t.wf n) (hk:t.inv.kind=6) (e:(oJ a t k).2.2.2=0):mE n t (oJ a t k):=by
 unfold oJ at e ⊢
 split
 ·rename_i hc;rw [if_pos hc] at e;exact absurd e hc
 rename_i hc;rw [if_neg hc] at e
 split
 ·simp only at e ⊢
  split
  ·exact ⟨ha,Task.oP (t:={t with loaded:=a.epoch}) (DL ht (.inl hk) _ rfl rfl rfl) _ _,by simp,oQ {t with loaded:=a.epoch} _ _ (by simp),rfl⟩
  ·exact ⟨ha,.inr (DL ht (.inl hk) _ rfl rfl rfl),by simp,fZ _,rfl⟩
 rename_i hp0;rw [if_neg hp0] at e
 simp only at e ⊢
 split
 ·rename_i hd;rw [if_pos hd] at e;exact absurd e hd
 rename_i hd;rw [if_neg hd] at e
 have hx:=aj.acw ha (Decidable.not_not.1 hd)
 split
 ·exact ⟨hx,.inr (DL ht (.inl hk) _ rfl rfl rfl),by simp,fZ _,rfl⟩
 ·exact ⟨hx,Task.oP ht _ _,by simp,oQ _ _ _ (by simp),rfl⟩
theorem alX (ha:a.wf n) (ht:t.wf n) (hk:t.inv.kind=7) (e:(oK a t k).2.2.2=0):mE n t (oK a t k):=by
 have fr:=DL ht (.inr hk)
 unfold oK at e ⊢
 split
 ·rename_i hc;rw [if_pos hc] at e;exact absurd e hc
 rename_i hc;rw [if_neg hc] at e
 split
 ·exact ⟨ha,.inr (fr _ rfl rfl rfl),by simp,fZ _,rfl⟩
 rename_i hp0;rw [if_neg hp0] at e
 split
 ·rename_i hp;rw [if_pos hp] at e
  simp only at e ⊢
  split
  ·rename_i hd;rw [if_pos hd] at e;exact absurd e hd
  ·refine ⟨ha,.inr ?_,by simp,?_,?_⟩<;>simp only<;>split<;>first|exact fr _ rfl rfl rfl|exact fZ _|rfl
 rename_i hp1;rw [if_neg hp1] at e
 split
 ·rename_i hp;rw [if_pos hp] at e
  simp only at e ⊢
  split
  ·rename_i hd;rw [if_pos hd] at e;exact absurd e hd
  ·refine ⟨ha,.inr ?_,by simp,?_,?_⟩<;>simp only<;>split<;>first|exact fr _ rfl rfl rfl|exact fZ _|rfl
 rename_i hp2;rw [if_neg hp2] at e
 split
 ·exact ⟨ha,.inr (fr _ rfl rfl rfl),by simp,fZ _,rfl⟩
 ·exact ⟨ha,Task.oP ht _ _,by simp,oQ _ _ _ (by simp),rfl⟩
theorem alY (ha:a.wf n) (ht:t.wf n) (hk:t.inv.kind=8) (e:(oL a t k).2.2.2=0):mE n t (oL a t k):=by
 have hpc:=ht.k8 hk
 have keep:∀ (t':Task),t'.setup=t.setup->t'.inv=t.inv->t'.entry=t.entry->(t'.pc=0\/(t'.sec.wf n/\cu n t'.sec.lock.cells=1/\t'.sec.lock.cells.length=2))->t'.wf n:=by
  intro t' e1 e2 e3 h2
  refine ht.turn e1 e2 e3 ?_ ?_ ?_ (fun _=>h2) ?_ ?_ ?_<;>intros<;>omega
 unfold oL at e ⊢
 split
 ·rename_i hc;rw [if_pos hc] at e;exact absurd e hc
 rename_i hc;rw [if_neg hc] at e
 split
 ·obtain ⟨h2,h3⟩:=acD ha.dv t.inv.home
  rw [ha.df] at h3
  have ho:=Np (n:=n) (c:=ql a.dir t.inv.home) (d:=t.setup.slots) ht.su.n6.2 h2 (by rw [ht.su.sl];exact h3) (by rw [ht.su.sl];omega) t.setup.limit ht.su.lim
  refine ⟨ha,.inr (keep _ rfl rfl rfl (.inr ⟨ho.1,?_,?_⟩)),by simp,fZ _,rfl⟩
  ·have:=ho.2.1;rw [if_neg (by rw [ht.su.sl];omega)] at this;exact this
  ·have:=ho.2.2
   simp only [Task.eX,this,List.length_cons,List.length_nil]
 rename_i hp0;rw [if_neg hp0] at e
 simp only [beq_iff_eq] at hp0
 have hs:=hpc.resolve_left hp0
 simp only at e ⊢
 split
 ·rename_i hd;rw [if_pos hd] at e;exact absurd e hd
 rename_i hd;rw [if_neg hd] at e
 obtain ⟨g1,s,g2,g3,g4,g5,g6⟩:=Task.go_wf ha hs.1 (k:=k) (Decidable.not_not.1 hd)
 have h1:cu n s.lock.cells=1:=by rw [g4];exact hs.2.1
 have h2:s.lock.cells.length=2:=by rw [g4];exact hs.2.2
 have hto:Task.wf n {t with sec:=s}:=keep _ rfl rfl rfl (.inr ⟨g3,h1,h2⟩)
 generalize hy:t.go a k=y at*
 obtain ⟨y1,y2,y3,y4,y5⟩:=y
 simp only at g1 g2 g5 g6 e ⊢
 subst g2
 split
 ·rename_i hf
  have hq:=(g3.q3 (by have:=g5 hf;omega)).2
  have fin:∀ (o:bE),o.aN.length=1->o.dP=[]->(o.order=[]\/o.order=[1,0])->(Task.dec {t with sec:=s} o).wf n:=by
   intro o hsh hed y7
   have hd:=Kg (n:=n) g3 (g5 hf) (o:=o) (by omega) (by simp [hed]) (by rcases y7 with h|h<;>rw [h];exact xh;exact acL h2) {t with sec:=s} rfl
   exact keep _ rfl rfl rfl (.inr ⟨hd.1,by rw [hd.2];exact h1,by rw [hd.2];exact h2⟩)
  have key:(mD {t with sec:=s}).1.wf n/\(mD {t with sec:=s}).1.results=t.results/\(mD {t with sec:=s}).2.length<=2/\(mD {t with sec:=s}).1.setup=t.setup:=by
   unfold mD
   simp only
   split
   ·exact ⟨fin _ (by simp [av.bg,hq,h1]) rfl (.inl rfl),rfl,by simp,rfl⟩
   ·split
    ·exact ⟨fin _ (by simp [av.bg,hq,h1]) rfl (.inl rfl),rfl,by simp,rfl⟩
    ·split
     ·exact ⟨fin _ (by simp [av.bg,hq,h1]) rfl (.inl rfl),rfl,by simp,rfl⟩
     ·exact ⟨fin _ rfl rfl (.inr rfl),rfl,by simp,rfl⟩
  exact ⟨g1,.inr key.1,key.2.2.1,by rw [key.2.1];exact fZ _,key.2.2.2⟩
 ·split
  ·exact ⟨g1,.inr hto,by simp,fZ _,rfl⟩
  ·split
   ·exact ⟨g1,.inr (keep _ rfl rfl rfl (.inl rfl)),by simp,fZ _,rfl⟩
   ·exact ⟨g1,Task.oP hto _ _,by simp,oQ {t with sec:=s} _ _ (by simp),rfl⟩
theorem Wd {plan:Task->qZ} {lo hi:Int} {cells:Task->List Int} (K L:Nat) (ha:a.wf n) (ht:t.wf n)
 (hpc:t.pc=0\/(t.sec.wf n/\(cu n t.sec.lock.cells=K\/9<K)/\t.sec.lock.cells.length=L))
 (keep:∀ (t':Task),t'.setup=t.setup->t'.inv=t.inv->t'.entry=t.entry->(t'.sec.wf n/\(cu n t'.sec.lock.cells=K\/9<K)/\t'.sec.lock.cells.length=L)->t'.wf n)
 (hc:(av.new (cells t) t.setup.limit).1.wf n/\(cu n (av.new (cells t) t.setup.limit).1.lock.cells=K\/9<K)/\(av.new (cells t) t.setup.limit).1.lock.cells.length=L)
 (hp:∀ t':Task,t'.inv=t.inv->t'.sec.wf n->t'.sec.phase=4->(cu n t'.sec.lock.cells=K\/9<K)->t'.sec.lock.cells.length=L->(plan t').1.aN.length=t'.sec.aN.length/\(plan t').1.dP.length<=1/\jf t'.sec.lock.cells (plan t').1.order []=true)
 (hev:∀ t',(plan t').2.2.length<=2) (htk:∀ t',(plan t').2.1.tokens=[])
 (e:(jF plan lo hi cells a t k).2.2.2=0):mE n t (jF plan lo hi cells a t k):=by
 unfold jF at e ⊢
 split
 ·rename_i hc;rw [if_pos hc] at e;exact absurd e hc
 rename_i hg;rw [if_neg hg] at e
 simp only at e ⊢
 have key:∀ t1:Task,t1.setup=t.setup->t1.inv=t.inv->t1.entry=t.entry->t1.results=t.results->(t1.sec.wf n/\(cu n t1.sec.lock.cells=K\/9<K)/\t1.sec.lock.cells.length=L)->
  (if (t1.go a k).2.2.2.2≠0 then dH (t1.go a k).2.2.2.2 else if (t1.go a k).2.2.1=true then ((t1.go a k).1,(t1.go a k).2.1.dec (plan (t1.go a k).2.1).1,(plan (t1.go a k).2.1).2.2,0)
   else if (!(t1.go a k).2.2.2.1)=true then ((t1.go a k).1,(t1.go a k).2.1,[],0) else ((t1.go a k).1,(t1.go a k).2.1.next (plan (t1.go a k).2.1).2.1 k,[],(0:Int))).2.2.2=0->
  mE n t (if (t1.go a k).2.2.2.2≠0 then dH (t1.go a k).2.2.2.2 else if (t1.go a k).2.2.1=true then ((t1.go a k).1,(t1.go a k).2.1.dec (plan (t1.go a k).2.1).1,(plan (t1.go a k).2.1).2.2,0)
   else if (!(t1.go a k).2.2.2.1)=true then ((t1.go a k).1,(t1.go a k).2.1,[],0) else ((t1.go a k).1,(t1.go a k).2.1.next (plan (t1.go a k).2.1).2.1 k,[],(0:Int))):=by
  intro t1 q1 q2 q3 q4 hs e
  split
  ·rename_i hd;rw [if_pos hd] at e;exact absurd e hd
  rename_i hd;rw [if_neg hd] at e
  obtain ⟨g1,s,g2,g3,g4,g5,g6⟩:=Task.go_wf ha hs.1 (k:=k) (Decidable.not_not.1 hd)
  have h1:(cu n s.lock.cells=K\/9<K)/\s.lock.cells.length=L:=by rw [g4];exact hs.2
  have hto:Task.wf n {t1 with sec:=s}:=keep _ q1 q2 q3 ⟨g3,h1⟩
  generalize hy:t1.go a k=y at*
  obtain ⟨y1,y2,y3,y4,y5⟩:=y
  simp only at g1 g2 g5 g6 e ⊢
  subst g2
  split
  ·rename_i hf
   obtain ⟨p1,p2,p3⟩:=hp {t1 with sec:=s} q2 g3 (g5 hf) h1.1 h1.2
   have hd:=Kg (n:=n) g3 (g5 hf) p1 p2 p3 {t1 with sec:=s} rfl
   exact ⟨g1,.inr (keep _ q1 q2 q3 ⟨hd.1,by rw [hd.2];exact h1⟩),hev _,by simp only [Task.dec,<-q4];exact fZ _,q1⟩
  ·split
   ·exact ⟨g1,.inr hto,by simp,by simp only [<-q4];exact fZ _,q1⟩
   ·refine ⟨g1,Task.oP hto _ _,by simp,?_,q1⟩
    have:=oQ {t1 with sec:=s} (plan {t1 with sec:=s}).2.1 k (by rw [htk];simp)
    rw [<-q4]
    exact this
 by_cases h0:t.pc=0
 ·have e0:(if (t.pc==0)=true then t.eX (cells t) 1 else t)=t.eX (cells t) 1:=by rw [if_pos (by simp [h0])]
  rw [e0] at e ⊢
  exact key (t.eX (cells t) 1) rfl rfl rfl rfl hc e
 ·have e0:(if (t.pc==0)=true then t.eX (cells t) 1 else t)=t:=by rw [if_neg (by simp [h0])]
  rw [e0] at e ⊢
  exact key t rfl rfl rfl rfl (hpc.resolve_left h0) e
end
end Go.Eng
namespace Go.Eng
open Go
section
variable {n:Nat} {a:aj} {t:Task} {k:Int}
theorem Wh (t:Task) (x y:ak):(placed t x y).length=2:=by unfold placed;split<;>rfl
theorem alZ (t:Task) {cells:List Int} (h:cells.length=2):jf cells (iM t) []=true:=by unfold iM;split;exact acK h;exact acL h
theorem y8 (ht:t.wf n) (hk:9<=t.inv.kind/\t.inv.kind<=11):(av.new (pairT t) t.setup.limit).1.wf n/\(cu n (av.new (pairT t) t.setup.limit).1.lock.cells=2\/9<2)/\(av.new (pairT t) t.setup.limit).1.lock.cells.length=2:=by
 have hv:=ht.iv
 have hn:=ht.su.n6
 have hs:=ht.su.sl
 unfold bJ.val at hv
 have hw:IntKind.i64.wrap (t.setup.slots - 1)=t.setup.slots - 1:=bF (by omega)
 have h0:¬ t.inv.kind=1:=by omega
 have h1:¬ (t.inv.kind=2\/t.inv.kind=8):=by omega
 have h2:¬ (t.inv.kind=3\/t.inv.kind=4\/t.inv.kind=5):=by omega
 have h3:t.inv.kind=9\/t.inv.kind=10\/t.inv.kind=11:=by omega
 simp only [beq_iff_eq,Bool.or_eq_true,h0,h1,h2,h3,if_false,if_true,hw] at hv
 clear h0 h1 h2 h3
 split at hv
 ·cases hv
 rename_i hx
 simp [dQ] at hx
 obtain ⟨⟨a1,a2⟩,⟨b1,b2⟩,c⟩:=hx
 have:=Np (n:=n) (c:=min t.inv.bA t.inv.to) (d:=max t.inv.bA t.inv.to) hn.2 (by omega) (by omega) (by omega) t.setup.limit ht.su.lim
 refine ⟨this.1,.inl ?_,?_⟩
 ·have h:=this.2.1
  rw [if_pos (by omega)] at h
  exact h
 ·have h:=this.2.2
  simp only [pairT,jg]
  rw [h];rfl
theorem Wi {plan:Task->qZ} {lo hi:Int} (ha:a.wf n) (ht:t.wf n) (hk:9<=t.inv.kind/\t.inv.kind<=11)
 (hp:∀ t':Task,t'.sec.aN.length=2->(plan t').1.aN.length=2/\(plan t').1.dP.length<=1/\((plan t').1.order=[]\/(plan t').1.order=iM t'))
 (hev:∀ t',(plan t').2.2.length<=2) (htk:∀ t',(plan t').2.1.tokens=[])
 (e:(jF plan lo hi pairT a t k).2.2.2=0):mE n t (jF plan lo hi pairT a t k):=by
 refine Wd 2 2 ha ht ?_ ?_ (y8 ht hk) ?_ hev htk e
 ·rcases ht.k9 hk.1 hk.2 with h|h
  ·exact .inl h
  ·exact .inr ⟨h.1,.inl h.2.1,h.2.2⟩
 ·intro t' e1 e2 e3 h
  refine ht.turn e1 e2 e3 ?_ ?_ ?_ ?_ (fun _ _=> .inr ⟨h.1,by omega,h.2.2⟩) ?_ ?_<;>intros<;>omega
 ·intro t' _ hs hph hK hL
  have hq:=(hs.q3 (by omega)).2
  obtain ⟨h1,h2,h3⟩:=hp t' (by omega)
  refine ⟨by omega,h2,?_⟩
  rcases h3 with h3|h3<;>rw [h3]
  ·exact xh
  ·exact alZ t' hL
theorem Wj (ht:t.wf n) (hk:t.inv.kind=12\/t.inv.kind=13):0<=t.inv.bA/\t.inv.bA<=n:=by
 have hv:=ht.iv
 have hn:=ht.su.n6
 have hs:=ht.su.sl
 unfold bJ.val at hv
 have hw:IntKind.i64.wrap (t.setup.slots - 1)=t.setup.slots - 1:=bF (by omega)
 rcases hk with h|h
 ·simp [h,hw,dQ] at hv;omega
 ·simp [h,hw,dQ] at hv;omega
theorem acN (ht:t.wf n) (hk:t.inv.kind=14):0<=t.inv.bA/\t.inv.bA<n:=by
 have hv:=ht.iv
 have hn:=ht.su.n6
 have hs:=ht.su.sl
 unfold bJ.val at hv
 have hw:IntKind.i64.wrap (t.setup.slots - 1)=t.setup.slots - 1:=bF (by omega)
 simp [hk,hw,dQ] at hv;omega
theorem al0 (ha:a.wf n) (ht:t.wf n) (hk:t.inv.kind=12\/t.inv.kind=13) (e:(w9 a t k).2.2.2=0):mE n t (w9 a t k):=by
 obtain ⟨c1,c2⟩:=Wj ht hk
 have hl:=acJ ht.su.n6.2 c1 c2 t.setup.limit ht.su.lim
 refine Wd 10 1 ha ht ?_ ?_ ⟨hl.1,.inr (by omega),by rw [hl.2];rfl⟩ ?_ ?_ ?_ e
 ·rcases ht.k12 hk with h|h
  ·exact .inl h
  ·exact .inr ⟨h.1,.inr (by omega),h.2⟩
 ·intro t' e1 e2 e3 h
  refine ht.turn e1 e2 e3 ?_ ?_ ?_ ?_ ?_ (fun _=> .inr ⟨h.1,h.2.2⟩) ?_<;>intros<;>omega
 ·intro t' _ hs hph _ hL
  have hq:=(hs.q3 (by omega)).2
  have hle:=xg n t'.sec.lock.cells
  have fin:∀ o:bE,o.aN.length=t'.sec.aN.length->o.dP=[]->(o.order=[]\/o.order=[0])->o.aN.length=t'.sec.aN.length/\o.dP.length<=1/\jf t'.sec.lock.cells o.order []=true:=by
   intro o h1 h2 h3
   refine ⟨h1,by simp [h2],?_⟩
   rcases h3 with h3|h3<;>rw [h3]
   ·exact xh
   ·exact Nq (by omega)
  unfold oM
  simp only
  split
  ·simp only
   split
   ·exact fin _ rfl rfl (.inr rfl)
   ·exact fin _ rfl rfl (.inl rfl)
  ·rename_i h0
   have h1:t'.sec.aN.length=1:=by omega
   split
   ·exact fin _ rfl rfl (.inl rfl)
   ·split
    ·simp only
     split
     ·exact fin _ (by simp [h1]) rfl (.inr rfl)
     ·exact fin _ rfl rfl (.inl rfl)
    ·split
     ·exact fin _ rfl rfl (.inl rfl)
     ·exact fin _ (by simp [h1]) rfl (.inr rfl)
 ·intro t'
  unfold oM
  simp only
  repeat' split
  all_goals simp
 ·intro t'
  unfold oM
  simp only
  repeat' split
  all_goals rfl
theorem al1 (ha:a.wf n) (ht:t.wf n) (hk:t.inv.kind=14) (e:(yZ a t k).2.2.2=0):mE n t (yZ a t k):=by
 obtain ⟨c1,c2⟩:=acN ht hk
 have hl:=Np (n:=n) (c:=t.inv.bA) (d:=t.setup.slots) ht.su.n6.2 c1 (by rw [ht.su.sl];exact c2) (by rw [ht.su.sl];omega) t.setup.limit ht.su.lim
 refine Wd 1 2 ha ht ?_ ?_ ⟨hl.1,.inl ?_,by rw [hl.2.2];rfl⟩ ?_ ?_ ?_ e
 ·rcases ht.k14 hk with h|h
  ·exact .inl h
  ·exact .inr ⟨h.1,.inl h.2.1,h.2.2⟩
 ·intro t' e1 e2 e3 h
  refine ht.turn e1 e2 e3 ?_ ?_ ?_ ?_ ?_ ?_ (fun _=> .inr ⟨h.1,by omega,h.2.2⟩)<;>intros<;>omega
 ·have h:=hl.2.1;rw [if_neg (by rw [ht.su.sl];omega)] at h;exact h
 ·intro t' _ hs hph hK hL
  have hq:=(hs.q3 (by omega)).2
  unfold oN
  simp only
  split
  ·exact ⟨rfl,by simp [av.bg],xh⟩
  ·split
   ·exact ⟨rfl,by simp [av.bg],xh⟩
   ·exact ⟨by simp only [List.length_cons,List.length_nil];omega,by simp,acK hL⟩
 ·intro t'
  unfold oN
  simp only
  repeat' split
  all_goals simp
 ·intro t'
  unfold oN
  simp only
  repeat' split
  all_goals rfl
theorem al2 (ha:a.wf n) (ht:t.wf n) (hk:t.inv.kind=9) (e:(yV a t k).2.2.2=0):mE n t (yV a t k):=by
 refine Wi ha ht (by omega) (fun t' h=> ?_) (fun t'=> ?_) (fun t'=> ?_) e<;>unfold rf<;>simp only<;>repeat' split
 all_goals first|exact ⟨h,by simp [av.bg],.inl rfl⟩|exact ⟨Wh _ _ _,by simp,.inr rfl⟩|simp
theorem al3 (ha:a.wf n) (ht:t.wf n) (hk:t.inv.kind=10) (e:(yX a t k).2.2.2=0):mE n t (yX a t k):=by
 refine Wi ha ht (by omega) (fun t' h=> ?_) (fun t'=> ?_) (fun t'=> ?_) e<;>unfold rq<;>simp only<;>repeat' split
 all_goals first|exact ⟨h,by simp [av.bg],.inl rfl⟩|exact ⟨Wh _ _ _,by simp,.inr rfl⟩|simp
theorem al4 (ha:a.wf n) (ht:t.wf n) (hk:t.inv.kind=11) (e:(yY a t k).2.2.2=0):mE n t (yY a t k):=by
 refine Wi ha ht (by omega) (fun t' h=> ?_) (fun t'=> ?_) (fun t'=> ?_) e<;>unfold ru<;>simp only<;>repeat' split
 all_goals first|exact ⟨h,by simp [av.bg],.inl rfl⟩|exact ⟨Wh _ _ _,by simp,.inr rfl⟩|simp
theorem acO (ha:a.wf n) (ht:t.wf n) (hd:t.dn=false) (e:(eY a t k).2.2.2=0):mE n t (eY a t k):=by
 unfold eY at e ⊢
 rw [if_neg (by simp [hd])] at e ⊢
 split
 ·rename_i h;rw [if_pos h] at e;exact alP ha ht (by simpa using h) e
 rename_i h;rw [if_neg h] at e;clear h
 split
 ·rename_i h;rw [if_pos h] at e;exact alS ha ht (by simpa using h) e
 rename_i h;rw [if_neg h] at e;clear h
 split
 ·rename_i h;rw [if_pos h] at e;exact alV ha ht (by simp at h;omega) e
 rename_i h;rw [if_neg h] at e;clear h
 split
 ·rename_i h;rw [if_pos h] at e;exact alW ha ht (by simpa using h) e
 rename_i h;rw [if_neg h] at e;clear h
 split
 ·rename_i h;rw [if_pos h] at e;exact alX ha ht (by simpa using h) e
 rename_i h;rw [if_neg h] at e;clear h
 split
 ·rename_i h;rw [if_pos h] at e;exact alY ha ht (by simpa using h) e
 rename_i h;rw [if_neg h] at e;clear h
 split
 ·rename_i h;rw [if_pos h] at e;exact al2 ha ht (by simpa using h) e
 rename_i h;rw [if_neg h] at e;clear h
 split
 ·rename_i h;rw [if_pos h] at e;exact al3 ha ht (by simpa using h) e
 rename_i h;rw [if_neg h] at e;clear h
 split
 ·rename_i h;rw [if_pos h] at e;exact al4 ha ht (by simpa using h) e
 rename_i h;rw [if_neg h] at e;clear h
 split
 ·rename_i h;rw [if_pos h] at e;exact al0 ha ht (by simpa using h) e
 rename_i h;rw [if_neg h] at e;clear h
 split
 ·rename_i h;rw [if_pos h] at e;exact al1 ha ht (by simpa using h) e
 rename_i h;rw [if_neg h] at e;cases e
end
end Go.Eng
