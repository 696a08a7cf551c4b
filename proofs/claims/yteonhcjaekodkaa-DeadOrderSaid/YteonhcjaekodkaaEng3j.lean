/-
  The engine, part 3j: structs and slices written out, make.
  No condition: lemmas.
-/
import Derived.Test.YteonhcjaekodkaaEng3i
set_option linter.all false
namespace Go.Eng
open Go
section
variable {P : Program} {C : Ctx} {ρ : Nat → Loc} {U : Nat → Prop} {h : List (Nat × Ob)} {w : World} {nm : Nat} {t : List (Nat × AV)} {a : Act} {o : Oper} {e : E}

theorem foldl_set (off : Nat) : ∀ (vs : List Value) (k : Nat) (cells : Array Value), off + k + vs.length ≤ cells.size →
    ((vs.zipIdx k).foldl (fun cs (x : Value × Nat) => cs.setIfInBounds (off + x.2) x.1) cells).size = cells.size ∧
    ∀ i : Nat, ((vs.zipIdx k).foldl (fun cs (x : Value × Nat) => cs.setIfInBounds (off + x.2) x.1) cells)[i]? =
      if i < off + k then cells[i]? else if i < off + k + vs.length then vs[i - (off + k)]? else cells[i]?
  | [], k, cells, _ => by
    refine ⟨rfl, fun i => ?_⟩
    simp only [List.zipIdx_nil, List.foldl_nil, List.length_nil, Nat.add_zero]
    split
    · rfl
    · rfl
  | v :: vs, k, cells, hl => by
    simp only [List.length_cons] at hl
    have ih := foldl_set off vs (k + 1) (cells.setIfInBounds (off + k) v) (by simp; omega)
    simp only [List.zipIdx_cons, List.foldl_cons]
    refine ⟨by rw [ih.1]; simp, fun i => ?_⟩
    rw [ih.2 i]
    simp only [List.length_cons, Array.getElem?_setIfInBounds]
    by_cases h1 : i < off + k
    · rw [if_pos (by omega), if_pos h1, if_neg (by omega)]
    · rw [if_neg h1]
      by_cases h2 : i = off + k
      · subst h2
        rw [if_pos (by omega), if_pos rfl, if_pos (by omega), if_pos (by omega), Nat.sub_self]
        rfl
      · have e1 : ¬ off + k = i := fun e => h2 e.symm
        have e2 : ¬ i < off + (k + 1) := by omega
        simp only [e1, e2, if_false]
        by_cases h3 : i < off + k + (vs.length + 1)
        · rw [if_pos (by omega), if_pos h3]
          rw [show i - (off + k) = i - (off + (k + 1)) + 1 from by omega]
          simp
        · rw [if_neg (by omega), if_neg h3]

theorem fill_one (off : Nat) (v cells : Array Value) (hl : off + v.size ≤ cells.size) :
    v.zipIdx.foldl (fun cs (x : Value × Nat) => cs.setIfInBounds (off + x.2) x.1) cells = pasted cells off v := by
  have h0 := foldl_set off v.toList 0 cells (by simpa using hl)
  have e : v.zipIdx.foldl (fun cs (x : Value × Nat) => cs.setIfInBounds (off + x.2) x.1) cells = (v.toList.zipIdx 0).foldl (fun cs (x : Value × Nat) => cs.setIfInBounds (off + x.2) x.1) cells := by
    rw [← Array.foldl_toList, Array.toList_zipIdx]
  rw [e]
  apply Array.ext_getElem?
  intro i
  rw [h0.2 i, pasted_get _ _ _ hl]
  simp

/-- A struct written out, field by field. -/
theorem fill_ok {ok : Nat → Prop} (place : Nat → Option (Nat × Nat)) : ∀ (ps : List (Nat × Value)) (qs : List (Nat × List AV)) (cells : Array Value) (cs cs' : List AV),
    VL w ok ρ U cs cells → fillA cs qs = some cs' → ps.length = qs.length →
    (∀ (i : Nat) (p : Nat × Value) (q : Nat × List AV), ps[i]? = some p → qs[i]? = some q → place p.1 = some (q.1, q.2.length) ∧ VL w ok ρ U q.2 p.2.cells) →
    ∃ cells', Instr.fill place cells ps = some cells' ∧ VL w ok ρ U cs' cells'
  | [], [], cells, cs, cs', hv, hf, _, _ => by
    simp only [fillA, Option.some.injEq] at hf; subst hf
    exact ⟨cells, rfl, hv⟩
  | p :: ps, q :: qs, cells, cs, cs', hv, hf, hl, hpq => by
    obtain ⟨off, ys⟩ := q
    obtain ⟨hpl, hvl⟩ := hpq 0 p (off, ys) rfl rfl
    simp only [fillA] at hf
    split at hf
    · rename_i hfit
      have h1 := hvl.1
      have h2 := hv.1
      simp only at h1 hpl hvl
      have hstep : VL w ok ρ U (splice cs off ys) (pasted cells off p.2.cells) := by
        refine ⟨by rw [splice_length _ _ _ hfit, pasted_size _ _ _ (by omega)]; exact h2, fun i c u hi hu => ?_⟩
        rw [splice, splice_get _ _ _ _ hfit] at hi
        rw [pasted_get _ _ _ (by omega)] at hu
        by_cases c1 : i < off
        · rw [if_pos c1] at hi hu; exact hv.2 i c u hi hu
        · rw [if_neg c1] at hi hu
          by_cases c2 : i < off + ys.length
          · rw [if_pos c2] at hi
            rw [if_pos (by omega)] at hu
            exact hvl.2 _ c u hi hu
          · rw [if_neg c2] at hi
            rw [if_neg (by omega)] at hu
            exact hv.2 i c u hi hu
      obtain ⟨cells', hc, hv'⟩ := fill_ok place ps qs (pasted cells off p.2.cells) _ cs' hstep hf (by simpa using hl) (fun i p' q' h1 h2 => hpq (i + 1) p' q' (by simpa using h1) (by simpa using h2))
      refine ⟨cells', ?_, hv'⟩
      simp only [Instr.fill, hpl]
      rw [if_neg (by simp; omega)]
      rw [fill_one _ _ _ (by omega)]
      exact hc
    · cases hf

theorem partsA_ok (ht : Tm C ρ U w t a) : ∀ (ps : List (Nat × Nat × Operand)) (qs : List (Nat × List AV)), partsA t ps = some qs → ps.length = qs.length ∧
    ∀ (i : Nat) (p : Nat × Nat × Operand) (q : Nat × List AV), ps[i]? = some p → qs[i]? = some q → p.1 = q.1 ∧ p.2.1 = q.2.length ∧ VL w (okc C ρ w) ρ U q.2 (a.eval p.2.2).cells
  | [], qs, hq => by simp only [partsA, Option.some.injEq] at hq; subst hq; simp
  | (off, sz, x) :: ps, qs, hq => by
    simp only [partsA] at hq
    split at hq
    · rename_i y l hy hl
      split at hq
      · rename_i ys hys
        split at hq
        · rename_i hlen
          simp only [Option.some.injEq] at hq; subst hq
          have ih := partsA_ok ht ps l hl
          refine ⟨by simp [ih.1], fun i p q hp hq => ?_⟩
          cases i with
          | zero =>
            simp at hp hq; subst hp; subst hq
            exact ⟨rfl, hlen.symm, (cellsA_ok (ev_ok ht hy) hys).1⟩
          | succ i => exact ih.2 i p q (by simpa using hp) (by simpa using hq)
        · cases hq
      · cases hq
    · cases hq

theorem zeros_VL {ok : Nat → Prop} {z : Value} : VL w ok ρ U (z.cells.toList.map .v) z.cells := by
  refine ⟨by simp, fun i c u h1 h2 => ?_⟩
  simp only [List.getElem?_map] at h1
  rw [← Array.getElem?_toList] at h2
  rw [h2] at h1
  simp at h1; subst h1
  exact .p (.v _)

theorem zerosOf_info {el : TypeId} {zs : List Value} (hz : zerosOf P el = some zs) : ∃ i z, P.info? el = some i ∧ i.zero = some z ∧ z.cells.toList = zs := by
  unfold zerosOf at hz
  split at hz
  · rename_i i hi
    split at hz
    · rename_i z hiz
      simp only [Option.some.injEq] at hz
      exact ⟨i, z, hi, hiz, hz⟩
    · cases hz
  · cases hz

theorem stripParts_ok {fs : Array Field} : ∀ (l : List (Nat × Operand)) (r : List (Nat × Nat × Operand)), stripParts P fs l = some r → l.length = r.length ∧
    ∀ (i : Nat) (p : Nat × Operand) (q : Nat × Nat × Operand), l[i]? = some p → r[i]? = some q → p.2 = q.2.2 ∧ ∃ f, fs[p.1]? = some f ∧ f.offset = q.1 ∧ sizeP P f.type = some q.2.1
  | [], r, hr => by simp only [stripParts, Option.some.injEq] at hr; subst hr; simp
  | (i, x) :: l, r, hr => by
    simp only [stripParts] at hr
    split at hr
    · rename_i f hf
      split at hr
      · rename_i sz hs
        split at hr
        · rename_i r' hr'
          simp only [Option.some.injEq] at hr; subst hr
          have ih := stripParts_ok l r' hr'
          refine ⟨by simp [ih.1], fun j p q hp hq => ?_⟩
          cases j with
          | zero => simp at hp hq; subst hp; subst hq; exact ⟨rfl, f, hf, rfl, hs⟩
          | succ j => exact ih.2 j p q (by simpa using hp) (by simpa using hq)
        · cases hr
      · cases hr
    · cases hr

theorem s_build (hr : HR C ρ U h w) (ht : Tm C ρ U w t a) {ty : TypeId} {fs : Array Field} {zs : List Value} {parts : Array (Nat × Operand)} {ps : List (Nat × Nat × Operand)}
    (h1 : P.underlying ty = some (.struct fs)) (hz : zerosOf P ty = some zs) (hps : stripParts P fs parts.toList = some ps) (hsz : ∀ f ∈ fs.toList, (sizeP P f.type).isSome = true)
    (ho : o.op = .build ty parts) (he : eff nm t h (.build zs ps) = some e) : Run C ρ U h w nm ((execOp a.eval o).run P w) e := by
  simp only [eff] at he
  split at he
  · rename_i qs hqs
    split at he
    · rename_i cs hcs
      simp only [E.ok, Option.some.injEq] at he; subst he
      obtain ⟨i, z, hi, hiz, hzl⟩ := zerosOf_info hz
      subst hzl
      have hS := stripParts_ok _ _ hps
      have hA := partsA_ok ht _ _ hqs
      have hplaces : ∀ (l : List Field), (∀ f ∈ l, (sizeP P f.type).isSome = true) → ∀ w, (l.mapM (m := Sem) fun f => do pure (f.offset, ← sizeOf f.type)).run P w = .ok (l.map fun f => (f.offset, (sizeP P f.type).getD 0)) w := by
        intro l
        induction l with
        | nil => intro _ w; simp
        | cons f l ih =>
          intro hl w
          have hf := hl f (by simp)
          obtain ⟨n, hn⟩ := Option.isSome_iff_exists.1 hf
          simp only [List.mapM_cons, Sem.run_bind, run_sizeP hn, Result.andThen_ok, Sem.run_pure, ih (fun g hg => hl g (by simp [hg])), List.map_cons, hn, Option.getD_some]
      have hplacesA : (fs.mapM (m := Sem) fun f => do pure (f.offset, ← sizeOf f.type)).run P w = .ok (fs.toList.map fun f => (f.offset, (sizeP P f.type).getD 0)).toArray w := by
        rw [Array.mapM_eq_mapM_toList, Sem.run_map, hplaces _ hsz w]
        rfl
      have hfill := fill_ok (w := w) (ρ := ρ) (U := U) (ok := okc C ρ w) (fun k => ((fs.toList.map fun f => (f.offset, (sizeP P f.type).getD 0)).toArray)[k]?) (parts.toList.map fun p => (p.1, a.eval p.2)) qs z.cells _ cs zeros_VL hcs
        (by rw [List.length_map, hS.1, hA.1]) (fun k p q hp hq => by
          simp only [List.getElem?_map, Option.map_eq_some_iff] at hp
          obtain ⟨p0, hp0, rfl⟩ := hp
          have hlt : k < ps.length := by rw [hA.1]; exact (List.getElem?_eq_some_iff.1 hq).1
          have hp1 := List.getElem?_eq_getElem hlt
          obtain ⟨e1, f, hf, e2, e3⟩ := hS.2 k p0 _ hp0 hp1
          obtain ⟨e4, e5, e6⟩ := hA.2 k _ q hp1 hq
          refine ⟨?_, by rw [e1]; exact e6⟩
          simp only [List.getElem?_toArray, List.getElem?_map, Array.getElem?_toList, hf, Option.map_some, e3, Option.getD_some, e2, e4, e5])
      obtain ⟨cells', hc, hv⟩ := hfill
      have hrun : (execOp a.eval o).run P w = .ok (.value (.agg cells')) w := by
        have e0 : (parts.map fun (x : Nat × Operand) => (x.1, a.eval x.2)).toList = parts.toList.map fun p => (p.1, a.eval p.2) := by simp
        simp only [execOp, ho, Instr.build, Sem.run_bind, zeroValue, typeInfo, run_program, hi, hiz, Sem.run_pure, Result.andThen_ok, run_underlying h1, hplacesA]
        rw [e0, hc]
        rfl
      rw [hrun]
      exact .same hr (.agg hv.1 hv.2) True
    · cases he
  · cases he

end
end Go.Eng
