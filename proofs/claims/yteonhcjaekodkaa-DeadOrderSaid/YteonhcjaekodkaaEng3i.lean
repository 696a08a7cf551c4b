/-
  The engine, part 3i: append.
  No condition: lemmas.
-/
import Derived.Test.YteonhcjaekodkaaEng3h
set_option linter.all false
namespace Go.Eng
open Go
section
variable {P : Program} {C : Ctx} {ρ : Nat → Loc} {U : Nat → Prop} {h : List (Nat × Ob)} {w : World} {nm : Nat} {t : List (Nat × AV)} {a : Act} {o : Oper} {e : E}

theorem Reads.append {ok : Nat → Prop} {sz : Nat} {xs ys : List (List AV)} {u v : Value} {us vs : List Value} (h1 : Reads w ok sz xs u us) (h2 : Reads w ok sz ys v vs) :
    (us ++ vs).length = (xs ++ ys).length * sz ∧ (∀ (k : Nat) (x : List AV), (xs ++ ys)[k]? = some x → x.length = sz) ∧
    ∀ (k : Nat) (x : List AV) (j : Nat) (c : AV), (xs ++ ys)[k]? = some x → x[j]? = some c → ∃ q, (us ++ vs)[k * sz + j]? = some q ∧ VP w ok c q := by
  refine ⟨by simp [h1.len, h2.len, Nat.add_mul], fun k x hk => ?_, fun k x j c hk hj => ?_⟩
  · rw [List.getElem?_append] at hk
    split at hk
    · exact h1.el _ x hk
    · exact h2.el _ x hk
  · rw [List.getElem?_append] at hk
    split at hk
    · rename_i hlt
      obtain ⟨q, hq, hv⟩ := h1.rel k x j c hk hj
      refine ⟨q, ?_, hv⟩
      rw [List.getElem?_append_left (List.getElem?_eq_some_iff.1 hq).1]
      exact hq
    · rename_i hge
      obtain ⟨q, hq, hv⟩ := h2.rel _ x j c hk hj
      refine ⟨q, ?_, hv⟩
      have : us.length ≤ k * sz + j := by
        rw [h1.len]
        have := Nat.mul_le_mul_right sz (Nat.not_lt.1 hge)
        omega
      rw [List.getElem?_append_right this, h1.len]
      rw [Nat.sub_mul] at hq
      have h3 := Nat.mul_le_mul_right sz (Nat.not_lt.1 hge)
      rw [show k * sz + j - xs.length * sz = k * sz - xs.length * sz + j from by omega]
      exact hq

/-- The element type's row of the table. -/
structure El (P : Program) (ty el sz by_ : Nat) (zs : List Value) : Prop where
  und : P.underlying ty = some (.slice el)
  z : zerosOf P el = some zs
  s : sizeP P el = some sz
  b : bytesP P el = some by_
  zl : zs.length = sz
  pos : 0 < sz

theorem El.info {ty el sz by_ : Nat} {zs : List Value} (h : El P ty el sz by_ zs) : ∃ i z, P.info? el = some i ∧ i.zero = some z ∧ i.size = sz ∧ i.bytes = by_ ∧ z.cells.size = sz ∧ z.cells.toList = zs := by
  obtain ⟨_, hz, hs, hb, hl, _⟩ := h
  unfold zerosOf at hz
  unfold sizeP at hs
  unfold bytesP at hb
  split at hz
  · rename_i i hi
    split at hz
    · rename_i z hiz
      rw [hi] at hs hb
      simp only [Option.some.injEq] at hs hb hz
      refine ⟨i, z, hi, hiz, hs, hb, ?_, hz⟩
      rw [← Array.length_toList, hz]; exact hl
    · cases hz
  · cases hz

theorem zeros_len (z : Array Value) (n : Nat) : (Builtin.zeroCells z n).toList.length = n * z.size := by rw [Array.length_toList, size_zeroCells]

/-- A row in the block that was just made, of which the first cells are known. -/
theorem new_row {w' : World} {ok : Nat → Prop} {ρ' : Nat → Loc} {U' : Nat → Prop} {el sz g m cap : Nat} {xs : List (List AV)} {vals rest : List Value} (hg : w'.heap[g]? = some (.cells (vals ++ rest).toArray el (0, 0)))
    (hlen : vals.length = xs.length * sz) (hel : ∀ (k : Nat) (x : List AV), xs[k]? = some x → x.length = sz) (hone : ∀ q ∈ vals, q.oneCell' = true)
    (hrel : ∀ (k : Nat) (x : List AV) (j : Nat) (c : AV), xs[k]? = some x → x[j]? = some c → ∃ q, vals[k * sz + j]? = some q ∧ VP w' ok c q)
    (hcap : (vals ++ rest).length = cap * sz) (hm : m = xs.length) (hmc : m ≤ cap) :
    ObR w' ok ρ' U' (.at g 0 (cap * sz)) (.row el sz xs) ∧ OwnAt (.at g 0 (cap * sz)) sz 0 m (.slice (some ⟨g, 0, none⟩) m cap) := by
  subst hm
  refine ⟨.inr ⟨g, 0, cap * sz, _, rfl, hg, by simp at hcap; simp; omega, Nat.mul_le_mul_right _ hmc, hel, fun k x j c hk hj => ?_⟩, ⟨_, _, _, rfl⟩, .inr ⟨cap, hmc, by simp, by simp⟩⟩
  obtain ⟨q, hq, hv⟩ := hrel k x j c hk hj
  refine ⟨q, ?_, hone q (List.mem_iff_getElem?.2 ⟨_, hq⟩), hv⟩
  simp only [Nat.zero_add, List.getElem?_toArray]
  rw [List.getElem?_append_left (List.getElem?_eq_some_iff.1 hq).1]
  exact hq

theorem s_app (hr : HR C ρ U h w) (ht : Tm C ρ U w t a) (hn : ¬ U nm) {ty el sz by_ : Nat} {zs : List Value} {s x : Operand} {c : Call} (hE : El P ty el sz by_ zs)
    (hc : c.callee = .builtin .append) (h2 : c.argTypes = #[ty, ty]) (h3 : c.args = #[s, x]) (ho : o.op = .call c) (he : eff nm t h (.app el sz by_ zs s x) = some e) (hp : e.pre) :
    Run C ρ U h w nm ((execOp a.eval o).run P w) e := by
  obtain ⟨i, z, hi, hiz, his, hib, hzc, hzl⟩ := hE.info
  have hsz := hE.pos
  have run1 : ∀ v w', (Builtin.append_ #[ty, ty] o.type #[a.eval s, a.eval x]).run P w = .ok v w' → (execOp a.eval o).run P w = .ok (.value v) w' := by
    intro v w' hv
    simp only [execOp, ho, resolve, hc, h2, h3, invoke, builtin, Sem.run_bind, Sem.run_pure, Result.andThen_ok, List.map_toArray, List.map_cons, List.map_nil, hv]
  simp only [eff] at he
  -- what is appended
  have news : ∀ p ys, contentsN h sz (ev t x) = some (p, ys) → p → ∃ vals, Reads w (okc C ρ w) sz ys (a.eval x) vals := by
    intro p ys hcn hp
    cases hx : ev t x with
    | none => rw [hx] at hcn; simp [contentsN] at hcn
    | some y => rw [hx] at hcn; exact contents_reads hr hsz (ev_ok ht hx) hcn hp
  split at he
  · -- onto nil
    rename_i p ys hs hcn
    simp only [Option.some.injEq] at he; subst he
    obtain ⟨hp1, hby, hml⟩ := hp
    obtain ⟨vals, hR⟩ := news p ys hcn hp1
    have hs' := (ev_ok ht hs).v_inv
    obtain ⟨ad, cap, hx, hnil, hcell⟩ := hR.form
    by_cases h0 : ys.length = 0
    · have hys : ys = [] := List.eq_nil_of_length_eq_zero h0
      subst hys
      have hrun : (Builtin.append_ #[ty, ty] o.type #[a.eval s, a.eval x]).run P w = .ok (.slice none 0 0) w := by
        rw [hs', hx]
        cases ad <;> simp [Builtin.append_, run_underlying hE.und, sizeOf, typeInfo, hi, Builtin.lenOf, Builtin.firstCells, loadCells, loadCellsFrom]
      have hm : Moved C ρ U h w nm .nil w := ⟨rfl, rfl, rfl, Nat.le_refl _, fun _ _ _ => rfl, .inr (.inr ⟨hn, .inl rfl⟩)⟩
      refine Run.moved (ob := .row el sz []) hr hm (fun ⟨cs, hcs⟩ => absurd (hr.hp _ _ hcs).1 hn) (Or.inl ⟨rfl, rfl⟩) (.inl (run1 _ _ hrun)) (.own (.inr rfl) ⟨⟨_, _, _, rfl⟩, ?_⟩) (.inr rfl) _
      simp [up]
    · have had : ∃ A, ad = some A := by
        cases ad with
        | none => exact absurd (by rw [hnil rfl]; rfl) h0
        | some A => exact ⟨A, rfl⟩
      obtain ⟨A, rfl⟩ := had
      have hrun := run_append_nil (P := P) w ty o.type el i z hE.und hi hiz A ys.length cap vals (by rw [hR.len, his]) (hcell A rfl) (by omega) (by unfold maxLen at hml; omega) (by rw [hib]; omega)
      have hcapge := grownCap_ge w ys.length 0 el
      have hm : Moved C ρ U h w nm (.at w.heap.size 0 (grownCap w ys.length 0 el * sz)) (w.drew.alloc (.cells (vals.toArray ++ Builtin.zeroCells z.cells (grownCap w ys.length 0 el - ys.length)) el)) :=
        ⟨rfl, rfl, rfl, by simp, fun g hg _ => Go.RowKit.Below.heap_alloc w.drew _ g hg, .inr (.inr ⟨hn, .inr ⟨w.heap.size, 0, _, rfl, Nat.le_refl _, by simp⟩⟩)⟩
      have hnew := new_row (w' := w.drew.alloc (.cells (vals.toArray ++ Builtin.zeroCells z.cells (grownCap w ys.length 0 el - ys.length)) el)) (ok := okc C (up ρ nm (.at w.heap.size 0 (grownCap w ys.length 0 el * sz))) (w.drew.alloc (.cells (vals.toArray ++ Builtin.zeroCells z.cells (grownCap w ys.length 0 el - ys.length)) el)))
        (ρ' := up ρ nm (.at w.heap.size 0 (grownCap w ys.length 0 el * sz))) (U' := addU U nm) (el := el) (sz := sz) (g := w.heap.size) (m := ys.length) (cap := grownCap w ys.length 0 el) (xs := ys) (vals := vals) (rest := (Builtin.zeroCells z.cells (grownCap w ys.length 0 el - ys.length)).toList)
        (by rw [show (vals ++ (Builtin.zeroCells z.cells (grownCap w ys.length 0 el - ys.length)).toList).toArray = vals.toArray ++ Builtin.zeroCells z.cells (grownCap w ys.length 0 el - ys.length) from by apply Array.ext'; simp]; exact heap_alloc_new w.drew _)
        hR.len hR.el hR.one (fun k x j c hk hj => (hR.rel k x j c hk hj).imp fun q hq => ⟨hq.1, hm.vp hq.2⟩)
        (by simp only [List.length_append, hR.len, Array.length_toList, size_zeroCells, hzc, ← Nat.add_mul]; congr 1; omega) rfl hcapge
      refine .moved hr hm (fun ⟨cs, hcs⟩ => absurd (hr.hp _ _ hcs).1 hn) hnew.1 (.inl (run1 _ _ (by rw [hs', hx]; exact hrun))) (.own (.inr rfl) ?_) (.inr rfl) _
      simp only [up, if_true]
      exact hnew.2
  · -- onto a row of our own
    rename_i b sz' off len p ys hs hcn
    split at he
    · rename_i e' sz'' xs hb
      split at he
      · rename_i hss
        obtain ⟨h1, h2', h3'⟩ := hss
        subst h1; subst h2'; subst h3'
        simp only [Option.some.injEq] at he; subst he
        obtain ⟨hp1, hby, hml, hfit⟩ := hp
        obtain ⟨vals, hR⟩ := news p ys hcn hp1
        obtain ⟨ad, cap, hx, hnil, hcell⟩ := hR.form
        have hvs := ev_ok ht hs
        obtain ⟨hub, ⟨_, _, _, hsl⟩, hown⟩ := hvs.own_inv
        obtain ⟨olds, hO⟩ := contents_reads (p := off + len ≤ xs.length) (xs := (xs.drop off).take len) hr hsz hvs (by simp [contentsN, hb]) hfit
        obtain ⟨ads, caps, hxs, hnils, hcells⟩ := hO.form
        have hlen : ((xs.drop off).take len).length = len := by simp; omega
        have hnb : ∀ cs, get h b ≠ some (.box cs) := by intro cs e; rw [hb] at e; cases e
        have hA := hO.append hR
        have htot : ((xs.drop off).take len ++ ys).length = len + ys.length := by rw [List.length_append, hlen]
        have hne : ∀ e, get h b = some e → e = .row el sz xs := by intro e he'; rw [hb] at he'; cases he'; rfl
        -- a new array
        have grow : ∀ (A : Addr) (old : Nat), ads = some A → a.eval s = .slice (some A) len old → old < len + ys.length → 0 < ys.length →
            ∀ pp, Run C ρ U h w nm ((execOp a.eval o).run P w) ⟨pp, .own nm sz 0 (len + ys.length), [(nm, .row el sz ((xs.drop off).take len ++ ys)), (b, .dead)]⟩ := by
          intro A old hA1 hA2 hlt hpos pp
          have had : ∃ B, ad = some B := by
            cases ad with
            | none => exact absurd (by rw [hnil rfl]; rfl) (Nat.ne_of_gt hpos)
            | some B => exact ⟨B, rfl⟩
          obtain ⟨B, rfl⟩ := had
          have hrun := run_append_grow (P := P) w ty o.type el i z hE.und hi hiz A len old olds (by rw [hO.len, his, hlen]) (hcells A hA1) B ys.length cap vals (by rw [hR.len, his]) (hcell B rfl) hlt
            (by unfold maxLen at hml; omega) (growslice_fits hlt (by rw [hib]; exact hby))
          have hcapge := grownCap_ge w (len + ys.length) old el
          have hm : Xfer C ρ U h w b nm (.at w.heap.size 0 (grownCap w (len + ys.length) old el * sz)) (w.drew.alloc (.cells (olds.toArray ++ vals.toArray ++ Builtin.zeroCells z.cells (grownCap w (len + ys.length) old el - (len + ys.length))) el)) :=
            ⟨rfl, rfl, rfl, by simp, fun g hg _ => Go.RowKit.Below.heap_alloc w.drew _ g hg, hub, hn, hnb, .inr ⟨w.heap.size, 0, _, rfl, .inl ⟨Nat.le_refl _, by simp⟩⟩⟩
          have hnew := new_row (w' := w.drew.alloc (.cells (olds.toArray ++ vals.toArray ++ Builtin.zeroCells z.cells (grownCap w (len + ys.length) old el - (len + ys.length))) el))
            (ok := okc C (up2 ρ b nm (.at w.heap.size 0 (grownCap w (len + ys.length) old el * sz))) (w.drew.alloc (.cells (olds.toArray ++ vals.toArray ++ Builtin.zeroCells z.cells (grownCap w (len + ys.length) old el - (len + ys.length))) el)))
            (ρ' := up2 ρ b nm (.at w.heap.size 0 (grownCap w (len + ys.length) old el * sz))) (U' := addU U nm) (el := el) (sz := sz) (g := w.heap.size) (m := len + ys.length) (cap := grownCap w (len + ys.length) old el) (xs := (xs.drop off).take len ++ ys) (vals := olds ++ vals)
            (rest := (Builtin.zeroCells z.cells (grownCap w (len + ys.length) old el - (len + ys.length))).toList)
            (by rw [show (olds ++ vals ++ (Builtin.zeroCells z.cells (grownCap w (len + ys.length) old el - (len + ys.length))).toList).toArray = olds.toArray ++ vals.toArray ++ Builtin.zeroCells z.cells (grownCap w (len + ys.length) old el - (len + ys.length)) from by apply Array.ext'; simp]; exact heap_alloc_new w.drew _)
            hA.1 hA.2.1 (fun q hq => (List.mem_append.1 hq).elim (hO.one q) (hR.one q)) (fun k x j c hk hj => (hA.2.2 k x j c hk hj).imp fun q hq => ⟨hq.1, hm.vp hq.2⟩)
            (by rw [List.length_append, hA.1, htot, zeros_len, hzc, ← Nat.add_mul]; congr 1; omega) htot.symm hcapge
          refine Run.xfer hr hm hnew.1 (run1 _ _ (by rw [hA2, hx]; exact hrun)) (.own (.inr rfl) ?_) _
          have : up2 ρ b nm (.at w.heap.size 0 (grownCap w (len + ys.length) old el * sz)) nm = .at w.heap.size 0 (grownCap w (len + ys.length) old el * sz) := by simp [up2, up]
          rw [this]
          exact hnew.2
        have hrow := (hr.hp b _ hb).2
        -- nil, as long as nothing has been appended
        have onto_nil : len = 0 → a.eval s = .slice none 0 0 →
            ∀ pp, Run C ρ U h w nm ((execOp a.eval o).run P w) ⟨pp, .own nm sz 0 (len + ys.length), [(nm, .row el sz ((xs.drop off).take len ++ ys)), (b, .dead)]⟩ := by
          intro h0 hsv pp
          subst h0
          simp only [List.take_zero, List.nil_append, Nat.zero_add] at hA htot hml hby ⊢
          by_cases hy0 : ys.length = 0
          · have hys : ys = [] := List.eq_nil_of_length_eq_zero hy0
            subst hys
            have hrun : (Builtin.append_ #[ty, ty] o.type #[a.eval s, a.eval x]).run P w = .ok (.slice none 0 0) w := by
              rw [hsv, hx]
              cases ad <;> simp [Builtin.append_, run_underlying hE.und, sizeOf, typeInfo, hi, Builtin.lenOf, Builtin.firstCells, loadCells, loadCellsFrom]
            have hm : Xfer C ρ U h w b nm .nil w := ⟨rfl, rfl, rfl, Nat.le_refl _, fun _ _ _ => rfl, hub, hn, hnb, .inl rfl⟩
            refine Run.xfer (ob := .row el sz []) hr hm (Or.inl ⟨rfl, rfl⟩) (run1 _ _ hrun) (.own (.inr rfl) ⟨⟨_, _, _, rfl⟩, ?_⟩) _
            simp [up2, up]
          · have had : ∃ B, ad = some B := by
              cases ad with
              | none => exact absurd (by rw [hnil rfl]; rfl) hy0
              | some B => exact ⟨B, rfl⟩
            obtain ⟨B, rfl⟩ := had
            have hrun := run_append_nil (P := P) w ty o.type el i z hE.und hi hiz B ys.length cap vals (by rw [hR.len, his]) (hcell B rfl) (by omega) (by unfold maxLen at hml; omega) (by rw [hib]; omega)
            have hcapge := grownCap_ge w ys.length 0 el
            have hm : Xfer C ρ U h w b nm (.at w.heap.size 0 (grownCap w ys.length 0 el * sz)) (w.drew.alloc (.cells (vals.toArray ++ Builtin.zeroCells z.cells (grownCap w ys.length 0 el - ys.length)) el)) :=
              ⟨rfl, rfl, rfl, by simp, fun g hg _ => Go.RowKit.Below.heap_alloc w.drew _ g hg, hub, hn, hnb, .inr ⟨w.heap.size, 0, _, rfl, .inl ⟨Nat.le_refl _, by simp⟩⟩⟩
            have hnew := new_row (w' := w.drew.alloc (.cells (vals.toArray ++ Builtin.zeroCells z.cells (grownCap w ys.length 0 el - ys.length)) el)) (ok := okc C (up2 ρ b nm (.at w.heap.size 0 (grownCap w ys.length 0 el * sz))) (w.drew.alloc (.cells (vals.toArray ++ Builtin.zeroCells z.cells (grownCap w ys.length 0 el - ys.length)) el)))
              (ρ' := up2 ρ b nm (.at w.heap.size 0 (grownCap w ys.length 0 el * sz))) (U' := addU U nm) (el := el) (sz := sz) (g := w.heap.size) (m := ys.length) (cap := grownCap w ys.length 0 el) (xs := ys) (vals := vals) (rest := (Builtin.zeroCells z.cells (grownCap w ys.length 0 el - ys.length)).toList)
              (by rw [show (vals ++ (Builtin.zeroCells z.cells (grownCap w ys.length 0 el - ys.length)).toList).toArray = vals.toArray ++ Builtin.zeroCells z.cells (grownCap w ys.length 0 el - ys.length) from by apply Array.ext'; simp]; exact heap_alloc_new w.drew _)
              hR.len hR.el hR.one (fun k x j c hk hj => (hR.rel k x j c hk hj).imp fun q hq => ⟨hq.1, hm.vp hq.2⟩)
              (by rw [List.length_append, hR.len, zeros_len, hzc, ← Nat.add_mul]; congr 1; omega) rfl hcapge
            refine Run.xfer hr hm hnew.1 (run1 _ _ (by rw [hsv, hx]; exact hrun)) (.own (.inr rfl) ?_) _
            have : up2 ρ b nm (.at w.heap.size 0 (grownCap w ys.length 0 el * sz)) nm = .at w.heap.size 0 (grownCap w ys.length 0 el * sz) := by simp [up2, up]
            rw [this]
            exact hnew.2
        cases hl : ρ b with
        | dead => rcases hrow with ⟨e', _⟩ | ⟨_, _, _, _, e', _⟩ <;> rw [hl] at e' <;> cases e'
        | nil =>
          rw [hl] at hown
          exact onto_nil hown.1 hown.2 _
        | «at» g off0 n =>
          rw [hl] at hown
          rcases hown with ⟨h0, hsv | ⟨A, hsv⟩⟩ | ⟨cap0, hlc, hroom, hsv⟩
          · exact onto_nil h0 hsv _
          · by_cases hy0 : ys.length = 0
            · have hys : ys = [] := List.eq_nil_of_length_eq_zero hy0
              subst hys; subst h0
              have hrun : (Builtin.append_ #[ty, ty] o.type #[a.eval s, a.eval x]).run P w = .ok (.slice (some A) 0 0) w := by
                rw [hsv, hx]
                cases ad <;> simp [Builtin.append_, run_underlying hE.und, sizeOf, typeInfo, hi, Builtin.lenOf, Builtin.firstCells, loadCells, loadCellsFrom, storeCells]
              have hm : Xfer C ρ U h w b nm (.at g off0 n) w := ⟨rfl, rfl, rfl, Nat.le_refl _, fun _ _ _ => rfl, hub, hn, hnb, .inr ⟨g, off0, n, rfl, .inr ⟨off0, n, hl⟩⟩⟩
              simp only [List.take_zero, List.nil_append, Nat.zero_add]
              refine Run.xfer (ob := .row el sz []) hr hm ?_ (run1 _ _ hrun) (.own (.inr rfl) ⟨⟨_, _, _, rfl⟩, ?_⟩) _
              · rcases hrow with ⟨e', _⟩ | ⟨g', o', n', cells, e', hg, hcs, _⟩
                · rw [hl] at e'; cases e'
                · rw [hl] at e'; cases e'
                  exact .inr ⟨g, off0, n, cells, rfl, hg, hcs, by simp, by simp, by simp⟩
              · simp [up2, up]
            · have hA2 : ads = some A := by rw [hsv] at hxs; injection hxs with e1; exact e1.symm
              subst h0
              exact grow A 0 hA2 hsv (by omega) (by omega) _
          · have hA2 : ads = some ⟨g, off0 + off * sz, none⟩ := by rw [hsv] at hxs; injection hxs with e1; exact e1.symm
            rcases hrow with ⟨e', _⟩ | ⟨g', o', n', cells, e', hg, hcs, hxn, hrl, hcellr⟩
            · rw [hl] at e'; cases e'
            · rw [hl] at e'; cases e'
              by_cases hfits : len + ys.length ≤ cap0
              · -- in place
                have hmul : (off + (len + ys.length)) * sz ≤ (off + cap0) * sz := Nat.mul_le_mul_right _ (by omega)
                rw [Nat.add_mul off, Nat.add_mul len] at hmul
                have hvl : vals.length = ys.length * sz := hR.len
                have hst := run_storeCells_at P g (off0 + off * sz + len * sz) el vals 0 cells w hg (by omega) hR.one
                simp only [Nat.add_zero, List.append_assoc] at hst
                have hfc : (Builtin.firstCells sz ys.length (.slice ad ys.length cap)).run P w = .ok vals.toArray w := by
                  cases ad with
                  | none =>
                    have := hnil rfl
                    subst this
                    have hv0 : vals = [] := List.eq_nil_of_length_eq_zero (by simpa using hvl)
                    rw [hv0]
                    exact run_firstCells_none w sz 0 0 cap
                  | some B => exact run_firstCells_some w sz ys.length B ys.length cap vals hvl (hcell B rfl)
                have hrun : (Builtin.append_ #[ty, ty] o.type #[a.eval s, a.eval x]).run P w = .ok (.slice (some ⟨g, off0 + off * sz, none⟩) (len + ys.length) cap0) (w.setRow g (pasted cells (off0 + off * sz + len * sz) vals.toArray)) := by
                  rw [hsv, hx]
                  simp [Builtin.append_, run_underlying hE.und, sizeOf, typeInfo, hi, Builtin.lenOf, hfits, hfc, add_plain, his, hst, pasted]
                have hm : Xfer C ρ U h w b nm (.at g (off0 + off * sz) (n - off * sz)) (w.setRow g (pasted cells (off0 + off * sz + len * sz) vals.toArray)) := by
                  refine ⟨rfl, rfl, rfl, by simp, fun k hk hkb => ?_, hub, hn, hnb, .inr ⟨g, _, _, rfl, .inr ⟨off0, n, hl⟩⟩⟩
                  by_cases hkg : k = g
                  · subst hkg; exact absurd hl (hkb off0 n)
                  · exact heap_setRow_other w g k _ hkg
                have hps := pasted_size cells (off0 + off * sz + len * sz) vals.toArray (by simp; omega)
                refine Run.xfer hr hm ?_ (run1 _ _ hrun) (.own (.inr rfl) ⟨⟨_, _, _, rfl⟩, ?_⟩) _
                · refine .inr ⟨g, _, _, _, rfl, setRow_heap w g cells _ el (0, 0) hg, by rw [hps]; omega, by rw [htot, Nat.add_mul]; omega, hA.2.1, fun k x' j c hk hj => ?_⟩
                  have hjs : j < sz := by rw [← hA.2.1 k x' hk]; exact (List.getElem?_eq_some_iff.1 hj).1
                  rw [List.getElem?_append, hlen] at hk
                  split at hk
                  · rename_i hkl
                    rw [List.getElem?_take, if_pos hkl, List.getElem?_drop] at hk
                    obtain ⟨u, hu1, hu2, hu3⟩ := hcellr _ x' j c hk hj
                    refine ⟨u, ?_, hu2, hm.vp hu3⟩
                    have h3 : k * sz + sz ≤ len * sz := by
                      have : (k + 1) * sz ≤ len * sz := Nat.mul_le_mul_right _ hkl
                      rw [Nat.add_mul, Nat.one_mul] at this
                      exact this
                    rw [pasted_get _ _ _ (by simp; omega), if_pos (by omega)]
                    rw [show off0 + off * sz + (k * sz + j) = off0 + ((off + k) * sz + j) from by rw [Nat.add_mul]; omega]
                    exact hu1
                  · rename_i hkl
                    obtain ⟨v, hv1, hv2⟩ := hR.rel _ x' j c hk hj
                    have hvlt := (List.getElem?_eq_some_iff.1 hv1).1
                    refine ⟨v, ?_, hR.one v (List.mem_iff_getElem?.2 ⟨_, hv1⟩), hm.vp hv2⟩
                    have h3 : k * sz = len * sz + (k - len) * sz := by rw [← Nat.add_mul]; congr 1; omega
                    rw [pasted_get _ _ _ (by simp; omega), if_neg (by omega), if_pos (by simp; omega)]
                    rw [show off0 + off * sz + (k * sz + j) - (off0 + off * sz + len * sz) = (k - len) * sz + j from by omega]
                    simpa using hv1
                · have : up2 ρ b nm (.at g (off0 + off * sz) (n - off * sz)) nm = .at g (off0 + off * sz) (n - off * sz) := by simp [up2, up]
                  rw [this]
                  refine .inr ⟨cap0, hfits, ?_, by simp⟩
                  rw [Nat.zero_add]
                  rw [Nat.add_mul] at hroom
                  omega
              · have hpos : 0 < ys.length := by omega
                exact grow _ cap0 hA2 hsv (by omega) hpos _
      · cases he
    · cases he
  · cases he

end
end Go.Eng
