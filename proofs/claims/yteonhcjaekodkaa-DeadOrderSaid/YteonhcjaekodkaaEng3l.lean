/-
  The engine, part 3l: slices written out, parts of slices and strings, elements of arrays and strings, bytes to strings.
  No condition: lemmas.
-/
import Derived.Test.YteonhcjaekodkaaEng3k
set_option linter.all false
namespace Go.Eng
open Go
section
variable {P : Program} {C : Ctx} {ρ : Nat → Loc} {U : Nat → Prop} {h : List (Nat × Ob)} {w : World} {nm : Nat} {t : List (Nat × AV)} {a : Act} {o : Oper} {e : E}

structure RowRel (w : World) (ok : Nat → Prop) (sz : Nat) (xs : List (List AV)) (cells : Array Value) : Prop where
  size : cells.size = xs.length * sz
  el : ∀ (k : Nat) (x : List AV), xs[k]? = some x → x.length = sz
  rel : ∀ (k : Nat) (x : List AV) (j : Nat) (c : AV), xs[k]? = some x → x[j]? = some c → ∃ q, cells[k * sz + j]? = some q ∧ q.oneCell' = true ∧ VP w ok c q

theorem RowRel.set {ok : Nat → Prop} {sz : Nat} {xs : List (List AV)} {cells vs : Array Value} {i : Nat} {y : List AV} (hR : RowRel w ok sz xs cells) (hi : i < xs.length) (hl : y.length = sz) (hv : vs.size = sz)
    (hone : ∀ (j : Nat) (v : Value), vs[j]? = some v → v.oneCell' = true) (hvp : ∀ (j : Nat) (c : AV) (v : Value), y[j]? = some c → vs[j]? = some v → VP w ok c v) : RowRel w ok sz (xs.set i y) (pasted cells (i * sz) vs) := by
  have hfit : i * sz + vs.size ≤ cells.size := by
    rw [hv, hR.size]
    have : (i + 1) * sz ≤ xs.length * sz := Nat.mul_le_mul_right _ hi
    rw [Nat.add_mul, Nat.one_mul] at this
    exact this
  refine ⟨by rw [pasted_size _ _ _ hfit, hR.size]; simp, fun k x hk => ?_, fun k x j c hk hj => ?_⟩
  · by_cases hik : i = k
    · subst hik
      rw [List.getElem?_set_self hi] at hk
      cases hk; exact hl
    · rw [List.getElem?_set_ne hik] at hk
      exact hR.el k x hk
  · rw [pasted_get _ _ _ hfit]
    by_cases hik : i = k
    · subst hik
      rw [List.getElem?_set_self hi] at hk
      cases hk
      have hjl : j < sz := by rw [← hl]; exact (List.getElem?_eq_some_iff.1 hj).1
      have hjv : j < vs.size := by omega
      rw [if_neg (by omega), if_pos (by omega), show i * sz + j - i * sz = j from by omega]
      have hg := Array.getElem?_eq_getElem hjv
      exact ⟨_, hg, hone j _ hg, hvp j c _ hj hg⟩
    · rw [List.getElem?_set_ne hik] at hk
      have hjl : j < sz := by rw [← hR.el k x hk]; exact (List.getElem?_eq_some_iff.1 hj).1
      obtain ⟨q, hq, h1, h2⟩ := hR.rel k x j c hk hj
      refine ⟨q, ?_, h1, h2⟩
      rcases Nat.lt_or_gt_of_ne hik with hlt | hgt
      · have : (i + 1) * sz ≤ k * sz := Nat.mul_le_mul_right _ hlt
        rw [Nat.add_mul, Nat.one_mul] at this
        rw [if_neg (by omega), if_neg (by omega)]; exact hq
      · have : (k + 1) * sz ≤ i * sz := Nat.mul_le_mul_right _ hgt
        rw [Nat.add_mul, Nat.one_mul] at this
        rw [if_pos (by omega)]; exact hq

theorem fillR_ok (ht : Tm C ρ U w t a) {sz : Nat} : ∀ (parts : List (Nat × Operand)) (ps : List (Nat × List AV)) (xs xs' : List (List AV)) (cells : Array Value), partsR t sz parts = some ps → fillR xs ps = some xs' → RowRel w (okc C ρ w) sz xs cells →
    ∃ cells', Instr.fill (fun i => some (i * sz, sz)) cells (parts.map fun p => (p.1, a.eval p.2)) = some cells' ∧ RowRel w (okc C ρ w) sz xs' cells' ∧ xs'.length = xs.length
  | [], ps, xs, xs', cells, hp, hf, hR => by
    simp only [partsR, Option.some.injEq] at hp; subst hp
    simp only [fillR, Option.some.injEq] at hf; subst hf
    exact ⟨cells, rfl, hR, rfl⟩
  | (i, x) :: parts, ps, xs, xs', cells, hp, hf, hR => by
    simp only [partsR] at hp
    split at hp
    · rename_i y l hy hl
      split at hp
      · rename_i ys hys
        split at hp
        · rename_i hc
          obtain ⟨hlen, hpure⟩ := hc
          simp only [Option.some.injEq] at hp; subst hp
          simp only [fillR] at hf
          split at hf
          · rename_i hi
            obtain ⟨hvl, hone, _⟩ := cellsA_ok (ev_ok ht hy) hys
            have hvs : (a.eval x).cells.size = sz := by rw [← hvl.1]; exact hlen
            have hR' := hR.set hi hlen hvs hone (fun j c v h1 h2 => VP.of_pure_aux (hvl.2 j c v h1 h2) (pureL_get _ hpure j c h1))
            obtain ⟨cells', hc, hR'', hl'⟩ := fillR_ok ht parts l (xs.set i ys) xs' _ hl hf hR'
            refine ⟨cells', ?_, hR'', by rw [hl']; simp⟩
            have hfit : i * sz + (a.eval x).cells.size ≤ cells.size := by
              rw [hvs, hR.size]
              have : (i + 1) * sz ≤ xs.length * sz := Nat.mul_le_mul_right _ hi
              rw [Nat.add_mul, Nat.one_mul] at this
              exact this
            simp only [List.map_cons, Instr.fill]
            rw [if_neg (by simp; omega), fill_one _ _ _ hfit]
            exact hc
          · cases hf
        · cases hp
      · cases hp
    · cases hp

theorem s_bslice (hr : HR C ρ U h w) (ht : Tm C ρ U w t a) (hn : ¬ U nm) {ty el sz len : Nat} {zs : List Value} {parts : Array (Nat × Operand)} (hu : P.underlying ty = some (.slice el)) (hz : zerosOf P el = some zs) (hs : sizeP P el = some sz)
    (hzl : zs.length = sz) (hpos : 0 < sz) (hmax : len * sz ≤ 16777216) (hone : zs.all Value.oneCell' = true)
    (ho : o.op = .buildSlice ty len parts) (he : eff nm t h (.bslice el sz zs len parts.toList) = some e) : Run C ρ U h w nm ((execOp a.eval o).run P w) e := by
  obtain ⟨i, z, hi, hiz, hzz⟩ := zerosOf_info hz
  have hzc : z.cells.size = sz := by rw [← Array.length_toList, hzz]; exact hzl
  simp only [eff] at he
  split at he
  · rename_i ps hps
    split at he
    · rename_i xs hxs
      simp only [Option.some.injEq] at he; subst he
      have base : RowRel w (okc C ρ w) sz (List.replicate len (zs.map AV.v)) (madeCells (if len * sz = 0 then #[] else z.cells) (len * sz)) := by
        refine ⟨by rw [size_madeCells]; simp, fun k x hk => ?_, ?_⟩
        · rw [List.getElem?_replicate] at hk
          split at hk
          · cases hk; simp [hzl]
          · cases hk
        · refine zeros_row hzl hone (fun k j hk hj => ?_)
          have : ¬ len * sz = 0 := by
            have := Nat.mul_pos (show 0 < len by omega) hpos
            omega
          rw [if_neg this, madeCells_get hzc hk hj, hzz]
      obtain ⟨cells', hc, hR, hl⟩ := fillR_ok ht parts.toList ps _ xs _ hps hxs base
      have hlen : len = xs.length := by rw [hl]; simp
      refine new_row_run (cells := cells') hr hn hR.size hlen hR.el hR.rel ?_ True
      have e0 : (parts.map fun (x : Nat × Operand) => (x.1, a.eval x.2)).toList = parts.toList.map fun p => (p.1, a.eval p.2) := by simp
      have hmx : ¬ (len * sz > 2 ^ 24) := by
        have : (2 : Nat) ^ 24 = 16777216 := by decide
        omega
      unfold madeCells at hc
      by_cases h0 : len * sz = 0
      · simp only [h0, if_true] at hc
        simp only [execOp, ho, Instr.buildSlice, Sem.run_bind, run_underlying hu, Result.andThen_ok, run_sizeP hs, h0]
        simp only [show ¬ ((0 : Nat) > 2 ^ 24) from by omega, if_false, if_true, Sem.run_bind, Sem.run_pure, Result.andThen_ok]
        rw [e0, hc]
        simp [newRow]
      · simp only [h0, if_false] at hc
        simp only [execOp, ho, Instr.buildSlice, Sem.run_bind, run_underlying hu, Result.andThen_ok, run_sizeP hs, hmx, h0, if_false, zeroValue, typeInfo, run_program, hi, hiz, Sem.run_pure]
        rw [e0, hc]
        simp [newRow]
    · cases he
  · cases he

theorem bound_ok (ht : Tm C ρ U w t a) {d : Nat} {x : Option Operand} {n : Int} (hb : bound t d x = some n) : (x = none ∧ n = d) ∨ ∃ y k, x = some y ∧ a.eval y = .int k n := by
  cases x with
  | none => simp only [bound, Option.some.injEq] at hb; exact .inl ⟨rfl, hb.symm⟩
  | some y =>
    simp only [bound] at hb
    split at hb
    · rename_i k m hy
      simp only [Option.some.injEq] at hb; subst hb
      exact .inr ⟨y, k, rfl, (ev_ok ht hy).v_inv⟩
    · cases hb

theorem run_bounds (ht : Tm C ρ U w t a) (isS : Bool) {len cap d d' : Nat} {lo hi : Option Operand} {l r : Int} (hl : bound t d lo = some l) (hr : bound t d' hi = some r) (hd : d = 0) (hd' : d' = len)
    (h0 : 0 ≤ l) (hlr : l ≤ r) (hrc : r ≤ cap) (w' : World) : (Instr.sliceBounds isS len cap (lo.map a.eval) (hi.map a.eval) none).run P w' = .ok (l.toNat, r.toNat, cap) w' := by
  subst hd'
  rcases bound_ok ht hr with ⟨rfl, e1⟩ | ⟨y, k, rfl, hy⟩ <;> rcases bound_ok ht hl with ⟨rfl, e2⟩ | ⟨z, k', rfl, hz⟩
  · have a1 : r.toNat = d' := by omega
    have a2 : l.toNat = 0 := by omega
    simp [Instr.sliceBounds, a1, a2]
  · have a1 : r.toNat = d' := by omega
    have c1 : 0 ≤ l ∧ l ≤ (d' : Int) := by omega
    simp [Instr.sliceBounds, a1, hz, Instr.sliceBound, asIntOf, c1]
  · have a2 : l.toNat = 0 := by omega
    have c1 : 0 ≤ r ∧ r ≤ (cap : Int) := by omega
    simp [Instr.sliceBounds, a2, hy, Instr.sliceBound, asIntOf, c1]
  · have c1 : 0 ≤ r ∧ r ≤ (cap : Int) := by omega
    have c2 : 0 ≤ l ∧ l ≤ (r.toNat : Int) := by omega
    have c3 : 0 ≤ l ∧ l ≤ max r 0 := by omega
    simp [Instr.sliceBounds, hz, hy, Instr.sliceBound, asIntOf, c1, c3]

theorem s_slice (hr : HR C ρ U h w) (ht : Tm C ρ U w t a) {ty el sz : Nat} {x : Operand} {lo hi mx : Option Operand} (hu : P.underlying ty = some (.slice el)) (hs : sizeP P el = some sz)
    (ho : o.op = .slice ty x lo hi mx) (he : eff nm t h (.slice sz x lo hi mx) = some e) (hp : e.pre) : Run C ρ U h w nm ((execOp a.eval o).run P w) e := by
  have run : ∀ (ad : Option Addr) (len cap d d' : Nat) (l r : Int), mx = none → a.eval x = .slice ad len cap → bound t d lo = some l → bound t d' hi = some r → d = 0 → d' = len → 0 ≤ l → l ≤ r → r ≤ cap →
      (execOp a.eval o).run P w = .ok (.value (.slice (if cap = l.toNat then ad else ad.map (·.add (l.toNat * sz))) (r.toNat - l.toNat) (cap - l.toNat))) w := by
    intro ad len cap d d' l r hmx hx hl hr hd hd' h0 hlr hrc
    subst hmx
    simp only [execOp, ho, hx, Instr.sliceAt, Instr.slice, Sem.run_bind, run_underlying hu, Result.andThen_ok, Option.map_none, run_bounds ht true hl hr hd hd' h0 hlr hrc, run_sizeP hs, Sem.run_pure]
  simp only [eff] at he
  split at he
  · rename_i sz' xs l hx hl
    split at he
    · rename_i r hr'
      split at he
      · rename_i hss
        subst hss
        simp only [Option.some.injEq] at he; subst he
        obtain ⟨h0, hlr, hrl⟩ := hp
        have hvp := (ev_ok ht hx).sl_inv
        cases hq : a.eval x with
        | slice ad n cap =>
          rw [hq] at hvp
          cases hvp with
          | nilsl =>
            simp only [List.length_nil] at hr' hrl
            rw [run none 0 0 0 0 l r rfl hq hl hr' rfl rfl h0 hlr (by simpa using hrl)]
            simp only [List.take_nil, List.drop_nil]
            have e1 : r.toNat - l.toNat = 0 := by simp at hrl; omega
            rw [e1]
            simp only [Option.map_none, ite_self, Nat.zero_sub]
            exact .same hr (.p .nilsl) _
          | sl A n cap f hn hcap hok hel hc hv =>
            subst hn
            have hrl' : r.toNat ≤ xs.length := by omega
            rw [run (some A) xs.length cap 0 xs.length l r rfl hq hl hr' rfl rfl h0 hlr (by omega)]
            have hlen : ((xs.take r.toNat).drop l.toNat).length = r.toNat - l.toNat := by simp; omega
            by_cases hcl : cap = l.toNat
            · have e0 : (xs.take r.toNat).drop l.toNat = [] := List.eq_nil_of_length_eq_zero (by rw [hlen]; omega)
              rw [if_pos hcl, e0]
              refine .same hr (.p (.sl A _ _ (fun _ _ => undef) (by simp; omega) (by omega) (by simp) (by simp) (by simp) (by simp))) _
            · rw [if_neg hcl]
              simp only [Option.map_some]
              by_cases hpos : 0 < xs.length
              · obtain ⟨hsp, hok'⟩ := hok hpos
                rw [add_spot _ _ hsp]
                have sub : ∀ (k : Nat) (x : List AV), ((xs.take r.toNat).drop l.toNat)[k]? = some x → xs[l.toNat + k]? = some x := by
                  intro k x hk
                  rw [List.getElem?_drop, List.getElem?_take] at hk
                  split at hk
                  · exact hk
                  · cases hk
                refine .same hr (.p (.sl ⟨A.block, A.off + l.toNat * sz, none⟩ (r.toNat - l.toNat) (cap - l.toNat) (fun k j => f (l.toNat + k) j) hlen.symm (by omega) (fun _ => ⟨rfl, hok'⟩) (fun k x hk => hel _ x (sub k x hk)) (fun k x j c hk hj => ?_) (fun k x j c hk hj => hv _ x j c (sub k x hk) hj))) _
                have := hc _ x j c (sub k x hk) hj
                rw [Nat.add_mul] at this
                simp only
                rw [show A.off + l.toNat * sz + (k * sz + j) = A.off + (l.toNat * sz + k * sz + j) from by omega]
                exact this
              · have e0 : (xs.take r.toNat).drop l.toNat = [] := List.eq_nil_of_length_eq_zero (by rw [hlen]; omega)
                rw [e0]
                refine .same hr (.p (.sl _ _ _ (fun _ _ => undef) (by simp; omega) (by omega) (by simp) (by simp) (by simp) (by simp))) _
        | _ => rw [hq] at hvp; cases hvp
      · cases he
    · cases he
  · rename_i b sz' off len l hx hl
    split at he
    · rename_i ety s2 xs r hb hr'
      split at he
      · rename_i hss
        subst hss
        simp only [Option.some.injEq] at he; subst he
        obtain ⟨h0, hlr, hrl⟩ := hp
        obtain ⟨hub, _, hown⟩ := (ev_ok ht hx).own_inv
        have hrow := (hr.hp b _ hb).2
        cases hloc : ρ b with
        | dead => rcases hrow with ⟨e', _⟩ | ⟨_, _, _, _, e', _⟩ <;> rw [hloc] at e' <;> cases e'
        | nil =>
          rw [hloc] at hown
          obtain ⟨rfl, hv⟩ := hown
          rw [run none 0 0 0 0 l r rfl hv hl hr' rfl rfl h0 hlr hrl]
          have e1 : r.toNat - l.toNat = 0 := by omega
          rw [e1]
          simp only [Option.map_none, ite_self, Nat.zero_sub]
          refine .same hr (.own hub ⟨⟨_, _, _, rfl⟩, ?_⟩) _
          rw [hloc]; exact ⟨rfl, rfl⟩
        | «at» g og n =>
          rw [hloc] at hown
          rcases hown with ⟨rfl, hv | ⟨A, hv⟩⟩ | ⟨cap, hlc, hroom, hv⟩
          · rw [run none 0 0 0 0 l r rfl hv hl hr' rfl rfl h0 hlr hrl]
            have e1 : r.toNat - l.toNat = 0 := by omega
            rw [e1]
            simp only [Option.map_none, ite_self, Nat.zero_sub]
            refine .same hr (.own hub ⟨⟨_, _, _, rfl⟩, ?_⟩) _
            rw [hloc]; exact .inl ⟨rfl, .inl rfl⟩
          · rw [run (some A) 0 0 0 0 l r rfl hv hl hr' rfl rfl h0 hlr hrl]
            have e1 : r.toNat - l.toNat = 0 := by omega
            have e2 : l.toNat = 0 := by omega
            rw [e1, e2]
            simp only [if_true, Nat.sub_zero]
            refine .same hr (.own hub ⟨⟨_, _, _, rfl⟩, ?_⟩) _
            rw [hloc]; exact .inl ⟨rfl, .inr ⟨A, rfl⟩⟩
          · rw [run _ len cap 0 len l r rfl hv hl hr' rfl rfl h0 hlr (by omega)]
            by_cases hcl : cap = l.toNat
            · rw [if_pos hcl]
              have e1 : r.toNat - l.toNat = 0 := by omega
              have e2 : cap - l.toNat = 0 := by omega
              rw [e1, e2]
              refine .same hr (.own hub ⟨⟨_, _, _, rfl⟩, ?_⟩) _
              rw [hloc]; exact .inl ⟨rfl, .inr ⟨_, rfl⟩⟩
            · rw [if_neg hcl]
              simp only [Option.map_some, add_plain]
              refine .same hr (.own hub ⟨⟨_, _, _, rfl⟩, ?_⟩) _
              rw [hloc]
              refine .inr ⟨cap - l.toNat, by omega, ?_, by rw [Nat.add_mul, Nat.add_assoc]⟩
              rw [show off + l.toNat + (cap - l.toNat) = off + cap from by omega]
              exact hroom
      · cases he
    · cases he
  · rename_i l hx hl
    split at he
    · rename_i r hr'
      simp only [Option.some.injEq] at he; subst he
      obtain ⟨rfl, rfl⟩ := hp
      have hv := (ev_ok ht hx).v_inv
      rw [run none 0 0 0 0 0 0 rfl hv hl hr' rfl rfl (Int.le_refl _) (Int.le_refl _) (by simp)]
      exact .same hr (.p (.v _)) _
    · cases he
  · cases he

theorem s_sslice (hr : HR C ρ U h w) (ht : Tm C ρ U w t a) {ty : TypeId} {x : Operand} {lo hi : Option Operand} (hu : P.underlying ty = some .string)
    (ho : o.op = .slice ty x lo hi none) (he : eff nm t h (.sslice x lo hi) = some e) (hp : e.pre) : Run C ρ U h w nm ((execOp a.eval o).run P w) e := by
  simp only [eff] at he
  split at he
  · rename_i s l hx hl
    have hv := (ev_ok ht hx).v_inv
    split at he
    · rename_i r hr'
      simp only [Option.some.injEq] at he; subst he
      obtain ⟨h0, hlr, hrl⟩ := hp
      simp only [execOp, ho, hv, Instr.sliceAt, Instr.slice, Sem.run_bind, run_underlying hu, Result.andThen_ok, Option.map_none, Option.isSome_none, Bool.false_eq_true, if_false, run_bounds ht false hl hr' rfl rfl h0 hlr hrl, Sem.run_pure]
      exact .same hr (.p (.v _)) _
    · cases he
  · cases he

theorem s_idxs (hr : HR C ρ U h w) (ht : Tm C ρ U w t a) {ty : TypeId} {x i : Operand} (hu : P.underlying ty = some .string)
    (ho : o.op = .index ty x i) (he : eff nm t h (.idxs x i) = some e) (hp : e.pre) : Run C ρ U h w nm ((execOp a.eval o).run P w) e := by
  simp only [eff] at he
  split at he
  · rename_i s k n hx hi
    have hv := (ev_ok ht hx).v_inv
    have hin := (ev_ok ht hi).v_inv
    simp only [Option.some.injEq] at he; subst he
    obtain ⟨h0, hlt⟩ := hp
    have hlt' : n.toNat < s.data.size := by have : s.size = s.data.size := rfl; omega
    have hg : s[n.toNat]? = some (s.data[n.toNat]?.getD 0) := by
      rw [show s[n.toNat]? = s.data[n.toNat]? from rfl, Array.getElem?_eq_getElem hlt']
      rfl
    simp only [execOp, ho, hv, hin, Instr.index, asIntOf, Sem.run_bind, Sem.run_pure, run_underlying hu, Result.andThen_ok, h0, if_true, hg]
    exact .same hr (.p (.v _)) _
  · cases he

theorem s_idx (hr : HR C ρ U h w) (ht : Tm C ρ U w t a) {ty el : TypeId} {n sz : Nat} {ag : Bool} {x i : Operand} (hu : P.underlying ty = some (.array n el)) (hs : sizeP P el = some sz) (ha : aggP P el = some ag)
    (ho : o.op = .index ty x i) (he : eff nm t h (.idx ag n sz x i) = some e) (hp : e.pre) : Run C ρ U h w nm ((execOp a.eval o).run P w) e := by
  simp only [eff] at he
  split at he
  · rename_i cs k q hx hi
    obtain ⟨vs, hv, hvl⟩ := (ev_ok ht hx).agg_inv
    have hin := (ev_ok ht hi).v_inv
    split at he
    · rename_i hag
      simp only [Option.some.injEq] at he; subst he
      obtain ⟨h0, hlt, hfit⟩ := hp
      simp only [execOp, ho, hv, hin, Instr.index, asIntOf, Sem.run_bind, Sem.run_pure, run_underlying hu, Result.andThen_ok, h0, hlt, and_self, Sem.run_ite, if_true, run_sizeP hs, part, run_isAgg ha, hag]
      refine .same hr (.agg ?_ fun j c u hc hj => ?_) _
      · have := hvl.1; simp; omega
      · rw [Array.getElem?_extract] at hj
        rw [List.getElem?_take] at hc
        split at hj
        · split at hc
          · rw [List.getElem?_drop] at hc
            exact hvl.2 _ _ _ hc hj
          · cases hc
        · cases hj
    · rename_i hag
      have hag' : ag = false := by simpa using hag
      split at he
      · rename_i c hc
        simp only [Option.some.injEq] at he; subst he
        obtain ⟨h0, hlt⟩ := hp
        have hl : q.toNat * sz < vs.size := by rw [← hvl.1]; exact (List.getElem?_eq_some_iff.1 hc).1
        have hg : vs[q.toNat * sz]? = some vs[q.toNat * sz] := Array.getElem?_eq_getElem hl
        simp only [execOp, ho, hv, hin, Instr.index, asIntOf, Sem.run_bind, Sem.run_pure, run_underlying hu, Result.andThen_ok, h0, hlt, and_self, Sem.run_ite, if_true, run_sizeP hs, part, run_isAgg ha, hag', Bool.false_eq_true, if_false, hg]
        exact .same hr (hvl.2 _ _ _ hc hg) _
      · cases he
  · cases he

end
end Go.Eng
