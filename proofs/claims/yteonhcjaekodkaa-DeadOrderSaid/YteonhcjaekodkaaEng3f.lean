/-
  The engine, part 3f: stores.
  No condition: lemmas.
-/
import Derived.Test.YteonhcjaekodkaaEng3e
set_option linter.all false
namespace Go.Eng
open Go
section
variable {P : Program} {C : Ctx} {ρ : Nat → Loc} {U : Nat → Prop} {h : List (Nat × Ob)} {w : World} {nm : Nat} {t : List (Nat × AV)} {a : Act} {o : Oper} {e : E}

theorem splice_get {α : Type} (cs ys : List α) (j i : Nat) (hl : j + ys.length ≤ cs.length) :
    (cs.take j ++ (ys ++ cs.drop (j + ys.length)))[i]? = if i < j then cs[i]? else if i < j + ys.length then ys[i - j]? else cs[i]? := by
  rw [List.getElem?_append, List.length_take, Nat.min_eq_left (by omega)]
  by_cases h1 : i < j
  · simp [h1]
  · rw [if_neg h1, if_neg h1, List.getElem?_append]
    by_cases h2 : i < j + ys.length
    · rw [if_pos (by omega), if_pos h2]
    · rw [if_neg (by omega), if_neg h2, List.getElem?_drop]
      congr 1; omega

theorem splice_length (cs ys : List AV) (j : Nat) (hl : j + ys.length ≤ cs.length) : (splice cs j ys).length = cs.length := by
  simp [splice]; omega

theorem heap_setRow_other (w : World) (g k : Nat) (cs : Array Value) (hk : k ≠ g) : (w.setRow g cs).heap[k]? = w.heap[k]? := by
  simp only [World.setRow, Array.getElem?_modify]
  rw [if_neg (fun e => hk e.symm)]

def pasted (cells : Array Value) (off : Nat) (vs : Array Value) : Array Value := (cells.toList.take off ++ (vs.toList ++ cells.toList.drop (off + vs.toList.length))).toArray

theorem pasted_size (cells : Array Value) (off : Nat) (vs : Array Value) (hf : off + vs.size ≤ cells.size) : (pasted cells off vs).size = cells.size := by
  simp [pasted]; omega

theorem pasted_get (cells : Array Value) (off : Nat) (vs : Array Value) (hf : off + vs.size ≤ cells.size) (i : Nat) :
    (pasted cells off vs)[i]? = if i < off then cells[i]? else if i < off + vs.size then vs[i - off]? else cells[i]? := by
  unfold pasted
  simp only [List.getElem?_toArray]
  rw [splice_get _ _ _ _ (by simpa using hf)]
  simp

/-- A store into a block that is known whole. -/
theorem run_storeVar {ty : TypeId} {sz g off : Nat} {u : Value} {cells : Array Value} {ety : Nat} (hs : sizeP P ty = some sz) (hsz : u.cells.size = sz)
    (h1 : ∀ (i : Nat) (v : Value), u.cells[i]? = some v → v.oneCell' = true) (hg : w.heap[g]? = some (.cells cells ety (0, 0))) (hfit : off + sz ≤ cells.size) :
    (storeVar ty ⟨g, off, none⟩ u).run P w = .ok () (w.setRow g (pasted cells off u.cells)) := by
  have hst := run_storeCells_at P g off ety u.cells.toList 0 cells w hg (by simp; omega) (fun v hv => by
    obtain ⟨i, hi, rfl⟩ := List.mem_iff_getElem.1 hv
    exact h1 i _ (by simp at hi; simp [hi]))
  simp only [Nat.add_zero, List.append_assoc] at hst
  simp only [storeVar, Sem.run_bind, run_sizeP hs, Result.andThen_ok, hsz, ne_eq, not_true_eq_false, if_false, hst, pasted]

theorem s_store (hr : HR C ρ U h w) (ht : Tm C ρ U w t a) {ty : TypeId} {sz : Nat} {x y : Operand} (hs : sizeP P ty = some sz)
    (ho : o.op = .store ty x y) (he : eff nm t h (.store sz x y) = some e) (hp : e.pre) : Run C ρ U h w nm ((execOp a.eval o).run P w) e := by
  have runS : ∀ (g off : Nat) (w' : World), a.eval x = .pointer (some ⟨g, off, none⟩) → (storeVar ty ⟨g, off, none⟩ (a.eval y)).run P w = .ok () w' → (execOp a.eval o).run P w = .ok .skip w' := by
    intro g off w' hx hrun
    simp only [execOp, ho, hx, Instr.storeAt, Instr.sureAddr, Sem.run_bind, Sem.run_pure, Result.andThen_ok, hrun]
  have moved : ∀ (b g off n : Nat) (cells cells' : Array Value) (ety : Nat), U b → ρ b = .at g off n → w.heap[g]? = some (.cells cells ety (0, 0)) → Moved C ρ U h w b (.at g off n) (w.setRow g cells') := by
    intro b g off n cells cells' ety hu hl hg
    refine ⟨rfl, rfl, rfl, by simp, fun k hk hkb => ?_, .inl ⟨hu, hl.symm⟩⟩
    by_cases hkg : k = g
    · subst hkg; exact absurd hl (hkb off n)
    · exact heap_setRow_other w g k cells' hkg
  simp only [eff] at he
  split at he
  · -- into a box
    rename_i b j z hx hy
    obtain ⟨hu, ad, hax, had⟩ := (ev_ok ht hx).ptr_inv
    have hvy := ev_ok ht hy
    split at he
    · rename_i cs ys hb hz
      obtain ⟨hvl, hone, _⟩ := cellsA_ok hvy hz
      split at he
      · rename_i hc
        obtain ⟨hlen, hfit⟩ := hc
        simp only [Option.some.injEq] at he; subst he
        obtain ⟨g, off, n, ety, cells, hl, hg, hcs, hn, hcell⟩ := box_at hr hb
        have := had g off n hl
        subst this; subst hn
        have hus : (a.eval y).cells.size = sz := by rw [← hvl.1]; exact hlen
        have hrun := run_storeVar (P := P) (w := w) (off := off + j) hs hus hone hg (by omega)
        have hm := moved b g off cs.length cells (pasted cells (off + j) (a.eval y).cells) ety hu hl hg
        have hrow := setRow_heap w g cells (pasted cells (off + j) (a.eval y).cells) ety (0, 0) hg
        refine .moved hr hm (fun _ => ⟨_, rfl⟩) ?_ (.inr ⟨rfl, runS g (off + j) _ hax hrun⟩) (.p (.v _)) (.inl hu) True
        refine ⟨g, off, cs.length, ety, _, rfl, hrow, ?_, (splice_length cs ys j (by omega)).symm, fun i c hi => ?_⟩
        · rw [pasted_size _ _ _ (by omega)]; omega
        · rw [splice, splice_get _ _ _ _ (by omega)] at hi
          have hul : (a.eval y).cells.size = ys.length := by omega
          rw [pasted_get _ _ _ (by omega), hul]
          by_cases h1 : i < j
          · rw [if_pos h1] at hi
            rw [if_pos (by omega)]
            obtain ⟨u, hu1, hu2⟩ := hcell i c hi
            exact ⟨u, hu1, hm.vr hu2⟩
          · rw [if_neg h1] at hi
            rw [if_neg (by omega)]
            by_cases h2 : i < j + ys.length
            · rw [if_pos h2] at hi
              rw [if_pos (by omega)]
              have hlt : off + i - (off + j) < (a.eval y).cells.size := by omega
              refine ⟨_, Array.getElem?_eq_getElem hlt, hm.vr (hvl.2 (i - j) c _ hi ?_)⟩
              rw [show i - j = off + i - (off + j) from by omega]
              exact Array.getElem?_eq_getElem hlt
            · rw [if_neg h2] at hi
              rw [if_neg (by omega)]
              obtain ⟨u, hu1, hu2⟩ := hcell i c hi
              exact ⟨u, hu1, hm.vr hu2⟩
      · cases he
    · cases he
  · -- into a row
    rename_i b sz' k j z hx hy
    obtain ⟨hu, ad, hax, had⟩ := (ev_ok ht hx).rp_inv
    have hvy := ev_ok ht hy
    split at he
    · rename_i ety sz'' xs ys hb hz
      obtain ⟨hvl, hone, _⟩ := cellsA_ok hvy hz
      split at he
      · rename_i hc
        obtain ⟨hss, hlen, hpure⟩ := hc
        subst hss
        simp only [Option.some.injEq] at he; subst he
        obtain ⟨hk, hfit⟩ := hp
        obtain ⟨g, off, n, cells, hl, hg, hcs, hroom, hrl, hcell⟩ := row_at hr hb (Nat.lt_of_le_of_lt (Nat.zero_le _) hk)
        have := had g off n hl
        subst this
        have hxk : xs[k]? = some (nth xs k) := by
          rw [List.getElem?_eq_getElem hk]; simp [nth, List.getElem?_eq_getElem hk]
        have hnl := hrl k _ hxk
        have hks : k * sz' + sz' ≤ xs.length * sz' := by
          have : (k + 1) * sz' ≤ xs.length * sz' := Nat.mul_le_mul_right _ hk
          rw [Nat.add_mul, Nat.one_mul] at this
          exact this
        have hus : (a.eval y).cells.size = sz := by rw [← hvl.1]; exact hlen
        have hrun := run_storeVar (P := P) (w := w) (off := off + (k * sz' + j)) hs hus hone hg (by omega)
        have hm := moved b g off n cells (pasted cells (off + (k * sz' + j)) (a.eval y).cells) ety hu hl hg
        have hrow := setRow_heap w g cells (pasted cells (off + (k * sz' + j)) (a.eval y).cells) ety (0, 0) hg
        have hps := pasted_size cells (off + (k * sz' + j)) (a.eval y).cells (by omega)
        have hul : (a.eval y).cells.size = ys.length := by omega
        refine .moved hr hm (fun ⟨cs, hcs'⟩ => by rw [hb] at hcs'; cases hcs') ?_ (.inr ⟨rfl, runS g _ _ hax hrun⟩) (.p (.v _)) (.inl hu) _
        refine .inr ⟨g, off, n, _, rfl, hrow, ?_, by simpa using hroom, fun q x hq => ?_, fun q x i c hq hi => ?_⟩
        · rw [hps]; omega
        · by_cases hqk : q = k
          · subst hqk
            simp [List.getElem?_set, hk] at hq
            subst hq
            rw [splice_length _ _ _ (by omega)]; exact hnl
          · rw [List.getElem?_set_ne (fun e => hqk e.symm)] at hq
            exact hrl q x hq
        · have old : ∀ x', xs[q]? = some x' → x'[i]? = some c → (q ≠ k ∨ i < j ∨ j + ys.length ≤ i) → i < sz' →
              ∃ u, (pasted cells (off + (k * sz' + j)) (a.eval y).cells)[off + (q * sz' + i)]? = some u ∧ u.oneCell' = true ∧ VP (w.setRow g (pasted cells (off + (k * sz' + j)) (a.eval y).cells)) (okc C (up ρ b (.at g off n)) (w.setRow g (pasted cells (off + (k * sz' + j)) (a.eval y).cells))) c u := by
            intro x' hq' hi' hor hisz
            obtain ⟨u, hu1, h1c, hu2⟩ := hcell q x' i c hq' hi'
            refine ⟨u, ?_, h1c, hm.vp hu2⟩
            rw [pasted_get _ _ _ (by omega), hul]
            have hne : ¬ (k * sz' + j ≤ q * sz' + i ∧ q * sz' + i < k * sz' + j + ys.length) := by
              rcases hor with hqk | hij | hij
              · intro ⟨c1, c2⟩
                rcases Nat.lt_or_gt_of_ne hqk with hlt | hgt
                · have : (q + 1) * sz' ≤ k * sz' := Nat.mul_le_mul_right _ hlt
                  rw [Nat.add_mul, Nat.one_mul] at this
                  omega
                · have : (k + 1) * sz' ≤ q * sz' := Nat.mul_le_mul_right _ hgt
                  rw [Nat.add_mul, Nat.one_mul] at this
                  omega
              · by_cases hqk : q = k
                · subst hqk; omega
                · intro ⟨c1, c2⟩
                  rcases Nat.lt_or_gt_of_ne hqk with hlt | hgt
                  · have : (q + 1) * sz' ≤ k * sz' := Nat.mul_le_mul_right _ hlt
                    rw [Nat.add_mul, Nat.one_mul] at this
                    omega
                  · have : (k + 1) * sz' ≤ q * sz' := Nat.mul_le_mul_right _ hgt
                    rw [Nat.add_mul, Nat.one_mul] at this
                    omega
              · by_cases hqk : q = k
                · subst hqk; omega
                · intro ⟨c1, c2⟩
                  rcases Nat.lt_or_gt_of_ne hqk with hlt | hgt
                  · have : (q + 1) * sz' ≤ k * sz' := Nat.mul_le_mul_right _ hlt
                    rw [Nat.add_mul, Nat.one_mul] at this
                    omega
                  · have : (k + 1) * sz' ≤ q * sz' := Nat.mul_le_mul_right _ hgt
                    rw [Nat.add_mul, Nat.one_mul] at this
                    omega
            by_cases h1 : off + (q * sz' + i) < off + (k * sz' + j)
            · rw [if_pos h1]; exact hu1
            · rw [if_neg h1, if_neg (by omega)]; exact hu1
          by_cases hqk : q = k
          · subst hqk
            simp [List.getElem?_set, hk] at hq
            subst hq
            have hisz : i < sz' := by
              have := (List.getElem?_eq_some_iff.1 hi).1
              rw [splice_length _ _ _ (by omega)] at this
              omega
            rw [splice, splice_get _ _ _ _ (by omega)] at hi
            by_cases h1 : i < j
            · rw [if_pos h1] at hi
              exact old _ hxk hi (.inr (.inl h1)) hisz
            · rw [if_neg h1] at hi
              by_cases h2 : i < j + ys.length
              · rw [if_pos h2] at hi
                have hlt : i - j < (a.eval y).cells.size := by omega
                have hv := hvl.2 (i - j) c _ hi (Array.getElem?_eq_getElem hlt)
                refine ⟨_, ?_, hone (i - j) _ (Array.getElem?_eq_getElem hlt), hm.vp (VP.of_pure_aux hv (pureL_get _ hpure _ _ hi))⟩
                rw [pasted_get _ _ _ (by omega), hul, if_neg (by omega), if_pos (by omega)]
                rw [show off + (q * sz' + i) - (off + (q * sz' + j)) = i - j from by omega]
                exact Array.getElem?_eq_getElem hlt
              · rw [if_neg h2] at hi
                exact old _ hxk hi (.inr (.inr (by omega))) hisz
          · rw [List.getElem?_set_ne (fun e => hqk e.symm)] at hq
            have := hrl q x hq
            exact old _ hq hi (.inl hqk) (by rw [← this]; exact (List.getElem?_eq_some_iff.1 hi).1)
      · cases he
    · cases he
  · cases he

end
end Go.Eng
