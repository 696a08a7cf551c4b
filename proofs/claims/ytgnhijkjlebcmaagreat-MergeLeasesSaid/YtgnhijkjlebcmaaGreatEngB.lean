/-
  What the operations of the program do, shown for the translated code: parts of an abstract interpreter.
  No condition: definitions and lemmas.
-/
import Derived.Test.YtgnhijkjlebcmaaGreatEngA
set_option linter.all false
namespace Go.Eng
open Go
section
variable {P : Program} {C : Ctx} {ρ : Nat → Loc} {U : Nat → Prop} {h : List (Nat × Ob)} {w : World} {nm : Nat} {t : List (Nat × AV)} {a : Act} {o : Oper} {e : E}
theorem Reads.append {ok : Nat → Prop} {sz : Nat} {xs ys : List (List AV)} {u v : Value} {us vs : List Value} (h1 : Reads w ok sz xs u us) (h2 : Reads w ok sz ys v vs) :
    (us ++ vs).length = (xs ++ ys).length * sz ∧ (∀ (k : Nat) (x : List AV), (xs ++ ys)[k]? = some x → x.length = sz) ∧
    ∀ (k : Nat) (x : List AV) (j : Nat) (c : AV), (xs ++ ys)[k]? = some x → x[j]? = some c → ∃ q, (us ++ vs)[k * sz + j]? = some q ∧ VP w ok c q := by
  refine ⟨by simp [h1.len, h2.len, Nat.add_mul], fun k x hk => ?_, fun k x j c hk hj => ?_⟩
  · rw [List.getElem?_append] at hk
    split at hk
    · exact h1.el _ x hk
    · exact h2.el _ x hk
  · rw [List.getElem?_append] at hk
    split at hk
    · rename_i hlt
      obtain ⟨q, hq, hv⟩ := h1.rel k x j c hk hj
      refine ⟨q, ?_, hv⟩
      rw [List.getElem?_append_left (List.getElem?_eq_some_iff.1 hq).1]
      exact hq
    · rename_i hge
      obtain ⟨q, hq, hv⟩ := h2.rel _ x j c hk hj
      refine ⟨q, ?_, hv⟩
      have : us.length ≤ k * sz + j := by
        rw [h1.len]
        have := Nat.mul_le_mul_right sz (Nat.not_lt.1 hge)
        omega
      rw [List.getElem?_append_right this, h1.len]
      rw [Nat.sub_mul] at hq
      have h3 := Nat.mul_le_mul_right sz (Nat.not_lt.1 hge)
      rw [show k * sz + j - xs.length * sz = k * sz - xs.length * sz + j from by omega]
      exact hq
structure El (P : Program) (ty el sz by_ : Nat) (zs : List Value) : Prop where
  und : P.underlying ty = some (.slice el)
  z : zerosOf P el = some zs
  s : sizeP P el = some sz
  b : bytesP P el = some by_
  zl : zs.length = sz
  pos : 0 < sz
theorem El.info {ty el sz by_ : Nat} {zs : List Value} (h : El P ty el sz by_ zs) : ∃ i z, P.info? el = some i ∧ i.zero = some z ∧ i.size = sz ∧ i.bytes = by_ ∧ z.cells.size = sz ∧ z.cells.toList = zs := by
  obtain ⟨_, hz, hs, hb, hl, _⟩ := h
  unfold zerosOf at hz
  unfold sizeP at hs
  unfold bytesP at hb
  split at hz
  · rename_i i hi
    split at hz
    · rename_i z hiz
      rw [hi] at hs hb
      simp only [Option.some.injEq] at hs hb hz
      refine ⟨i, z, hi, hiz, hs, hb, ?_, hz⟩
      rw [← Array.length_toList, hz]; exact hl
    · cases hz
  · cases hz
theorem zeros_len (z : Array Value) (n : Nat) : (Builtin.zeroCells z n).toList.length = n * z.size := by rw [Array.length_toList, size_zeroCells]
theorem new_row {w' : World} {ok : Nat → Prop} {ρ' : Nat → Loc} {U' : Nat → Prop} {el sz g m cap : Nat} {xs : List (List AV)} {vals rest : List Value} (hg : w'.heap[g]? = some (.cells (vals ++ rest).toArray el (0, 0)))
    (hlen : vals.length = xs.length * sz) (hel : ∀ (k : Nat) (x : List AV), xs[k]? = some x → x.length = sz) (hone : ∀ q ∈ vals, q.oneCell' = true)
    (hrel : ∀ (k : Nat) (x : List AV) (j : Nat) (c : AV), xs[k]? = some x → x[j]? = some c → ∃ q, vals[k * sz + j]? = some q ∧ VP w' ok c q)
    (hcap : (vals ++ rest).length = cap * sz) (hm : m = xs.length) (hmc : m ≤ cap) :
    ObR w' ok ρ' U' (.at g 0 (cap * sz)) (.row el sz xs) ∧ OwnAt (.at g 0 (cap * sz)) sz 0 m (.slice (some ⟨g, 0, none⟩) m cap) := by
  subst hm
  refine ⟨.inr ⟨g, 0, cap * sz, _, rfl, hg, by simp at hcap; simp; omega, Nat.mul_le_mul_right _ hmc, hel, fun k x j c hk hj => ?_⟩, ⟨_, _, _, rfl⟩, .inr ⟨cap, hmc, by simp, by simp⟩⟩
  obtain ⟨q, hq, hv⟩ := hrel k x j c hk hj
  refine ⟨q, ?_, hone q (List.mem_iff_getElem?.2 ⟨_, hq⟩), hv⟩
  simp only [Nat.zero_add, List.getElem?_toArray]
  rw [List.getElem?_append_left (List.getElem?_eq_some_iff.1 hq).1]
  exact hq
set_option maxHeartbeats 4000000 in
theorem s_app (hr : HR C ρ U h w) (ht : Tm C ρ U w t a) (hn : ¬ U nm) {ty el sz by_ : Nat} {zs : List Value} {s x : Operand} {c : Call} (hE : El P ty el sz by_ zs)
    (hc : c.callee = .builtin .append) (h2 : c.argTypes = #[ty, ty]) (h3 : c.args = #[s, x]) (ho : o.op = .call c) (he : eff nm t h (.app el sz by_ zs s x) = some e) (hp : e.pre) :
    Run C ρ U h w nm ((execOp a.eval o).run P w) e := by
  obtain ⟨i, z, hi, hiz, his, hib, hzc, hzl⟩ := hE.info
  have hsz := hE.pos
  have run1 : ∀ v w', (Builtin.append_ #[ty, ty] o.type #[a.eval s, a.eval x]).run P w = .ok v w' → (execOp a.eval o).run P w = .ok (.value v) w' := by
    intro v w' hv
    simp only [execOp, ho, resolve, hc, h2, h3, invoke, builtin, Sem.run_bind, Sem.run_pure, Result.andThen_ok, List.map_toArray, List.map_cons, List.map_nil, hv]
  simp only [eff] at he
  have news : ∀ p ys, contentsN h sz (ev t x) = some (p, ys) → p → ∃ vals, Reads w (okc C ρ w) sz ys (a.eval x) vals := by
    intro p ys hcn hp
    cases hx : ev t x with
    | none => rw [hx] at hcn; simp [contentsN] at hcn
    | some y => rw [hx] at hcn; exact contents_reads hr hsz (ev_ok ht hx) hcn hp
  split at he
  · -- onto nil
    rename_i p ys hs hcn
    simp only [Option.some.injEq] at he; subst he
    obtain ⟨hp1, hby, hml⟩ := hp
    obtain ⟨vals, hR⟩ := news p ys hcn hp1
    have hs' := (ev_ok ht hs).v_inv
    obtain ⟨ad, cap, hx, hnil, hcell⟩ := hR.form
    by_cases h0 : ys.length = 0
    · have hys : ys = [] := List.eq_nil_of_length_eq_zero h0
      subst hys
      have hrun : (Builtin.append_ #[ty, ty] o.type #[a.eval s, a.eval x]).run P w = .ok (.slice none 0 0) w := by
        rw [hs', hx]
        cases ad <;> simp [Builtin.append_, run_underlying hE.und, sizeOf, typeInfo, hi, Builtin.lenOf, Builtin.firstCells, loadCells, loadCellsFrom]
      have hm : Moved C ρ U h w nm .nil w := ⟨rfl, rfl, rfl, Nat.le_refl _, fun _ _ _ => rfl, .inr (.inr ⟨hn, .inl rfl⟩)⟩
      refine Run.moved (ob := .row el sz []) hr hm (fun ⟨cs, hcs⟩ => absurd (hr.hp _ _ hcs).1 hn) (Or.inl ⟨rfl, rfl⟩) (.inl (run1 _ _ hrun)) (.own (.inr rfl) ⟨⟨_, _, _, rfl⟩, ?_⟩) (.inr rfl) _
      simp [up]
    · have had : ∃ A, ad = some A := by
        cases ad with
        | none => exact absurd (by rw [hnil rfl]; rfl) h0
        | some A => exact ⟨A, rfl⟩
      obtain ⟨A, rfl⟩ := had
      have hrun := run_append_nil (P := P) w ty o.type el i z hE.und hi hiz A ys.length cap vals (by rw [hR.len, his]) (hcell A rfl) (by omega) (by unfold maxLen at hml; omega) (by rw [hib]; omega)
      have hcapge := grownCap_ge w ys.length 0 el
      have hm : Moved C ρ U h w nm (.at w.heap.size 0 (grownCap w ys.length 0 el * sz)) (w.drew.alloc (.cells (vals.toArray ++ Builtin.zeroCells z.cells (grownCap w ys.length 0 el - ys.length)) el)) :=
        ⟨rfl, rfl, rfl, by simp, fun g hg _ => Go.RowKit.Below.heap_alloc w.drew _ g hg, .inr (.inr ⟨hn, .inr ⟨w.heap.size, 0, _, rfl, Nat.le_refl _, by simp⟩⟩)⟩
      have hnew := new_row (w' := w.drew.alloc (.cells (vals.toArray ++ Builtin.zeroCells z.cells (grownCap w ys.length 0 el - ys.length)) el)) (ok := okc C (up ρ nm (.at w.heap.size 0 (grownCap w ys.length 0 el * sz))) (w.drew.alloc (.cells (vals.toArray ++ Builtin.zeroCells z.cells (grownCap w ys.length 0 el - ys.length)) el)))
        (ρ' := up ρ nm (.at w.heap.size 0 (grownCap w ys.length 0 el * sz))) (U' := addU U nm) (el := el) (sz := sz) (g := w.heap.size) (m := ys.length) (cap := grownCap w ys.length 0 el) (xs := ys) (vals := vals) (rest := (Builtin.zeroCells z.cells (grownCap w ys.length 0 el - ys.length)).toList)
        (by rw [show (vals ++ (Builtin.zeroCells z.cells (grownCap w ys.length 0 el - ys.length)).toList).toArray = vals.toArray ++ Builtin.zeroCells z.cells (grownCap w ys.length 0 el - ys.length) from by apply Array.ext'; simp]; exact heap_alloc_new w.drew _)
        hR.len hR.el hR.one (fun k x j c hk hj => (hR.rel k x j c hk hj).imp fun q hq => ⟨hq.1, hm.vp hq.2⟩)
        (by simp only [List.length_append, hR.len, Array.length_toList, size_zeroCells, hzc, ← Nat.add_mul]; congr 1; omega) rfl hcapge
      refine .moved hr hm (fun ⟨cs, hcs⟩ => absurd (hr.hp _ _ hcs).1 hn) hnew.1 (.inl (run1 _ _ (by rw [hs', hx]; exact hrun))) (.own (.inr rfl) ?_) (.inr rfl) _
      simp only [up, if_true]
      exact hnew.2
  · -- onto a slice without room
    rename_i sz' xs p ys hs hcn
    split at he
    · rename_i h1
      subst h1
      split at he
      case isFalse hpos =>
        simp only [Option.some.injEq] at he; subst he
        obtain ⟨vals, hR⟩ := news p ys hcn hp
        obtain ⟨ad, cap, hx, hnil, hcell⟩ := hR.form
        obtain ⟨hsl, hclip⟩ := (ev_ok ht hs).slc_inv
        have hy0 : ys.length = 0 := by omega
        have hys : ys = [] := List.eq_nil_of_length_eq_zero hy0
        subst hys
        have hrun : (Builtin.append_ #[ty, ty] o.type #[a.eval s, a.eval x]).run P w = .ok (a.eval s) w := by
          rcases hclip with hv | ⟨A, n, hv⟩
          · rw [hv, hx]
            cases ad <;> simp [Builtin.append_, run_underlying hE.und, sizeOf, typeInfo, hi, Builtin.lenOf, Builtin.firstCells, loadCells, loadCellsFrom]
          · rw [hv, hx]
            cases ad <;> simp [Builtin.append_, run_underlying hE.und, sizeOf, typeInfo, hi, Builtin.lenOf, Builtin.firstCells, loadCells, loadCellsFrom, storeCells]
        rw [run1 _ _ hrun]
        exact .same hr (.p hsl) _
      rename_i hpos
      simp only [Option.some.injEq] at he; subst he
      obtain ⟨hp1, hby, hml⟩ := hp
      obtain ⟨vals, hR⟩ := news p ys hcn hp1
      obtain ⟨ad, cap, hx, hnil, hcell⟩ := hR.form
      obtain ⟨hsl, hclip⟩ := (ev_ok ht hs).slc_inv
      obtain ⟨olds, hO⟩ := contents_reads (p := True) (xs := xs) (x := .sl sz xs) hr hsz (VR.p hsl) (by simp [contentsN]) trivial
      have had : ∃ B, ad = some B := by
        cases ad with
        | none => exact absurd (by rw [hnil rfl]; rfl) (Nat.ne_of_gt hpos)
        | some B => exact ⟨B, rfl⟩
      obtain ⟨B, rfl⟩ := had
      rcases hclip with hsn | ⟨A, n, hsA⟩
      · have hx0 : xs = [] := by
          have h5 := hsl
          rw [hsn] at h5
          cases h5
          rfl
        subst hx0
        simp only [List.length_nil, Nat.zero_add, List.nil_append] at hby hml ⊢
        have h0 : ys.length ≠ 0 := Nat.ne_of_gt hpos
        have hrun := run_append_nil (P := P) w ty o.type el i z hE.und hi hiz B ys.length cap vals (by rw [hR.len, his]) (hcell B rfl) (by omega) (by unfold maxLen at hml; omega) (by rw [hib]; omega)
        have hcapge := grownCap_ge w ys.length 0 el
        have hm : Moved C ρ U h w nm (.at w.heap.size 0 (grownCap w ys.length 0 el * sz)) (w.drew.alloc (.cells (vals.toArray ++ Builtin.zeroCells z.cells (grownCap w ys.length 0 el - ys.length)) el)) :=
          ⟨rfl, rfl, rfl, by simp, fun g hg _ => Go.RowKit.Below.heap_alloc w.drew _ g hg, .inr (.inr ⟨hn, .inr ⟨w.heap.size, 0, _, rfl, Nat.le_refl _, by simp⟩⟩)⟩
        have hnew := new_row (w' := w.drew.alloc (.cells (vals.toArray ++ Builtin.zeroCells z.cells (grownCap w ys.length 0 el - ys.length)) el)) (ok := okc C (up ρ nm (.at w.heap.size 0 (grownCap w ys.length 0 el * sz))) (w.drew.alloc (.cells (vals.toArray ++ Builtin.zeroCells z.cells (grownCap w ys.length 0 el - ys.length)) el)))
          (ρ' := up ρ nm (.at w.heap.size 0 (grownCap w ys.length 0 el * sz))) (U' := addU U nm) (el := el) (sz := sz) (g := w.heap.size) (m := ys.length) (cap := grownCap w ys.length 0 el) (xs := ys) (vals := vals) (rest := (Builtin.zeroCells z.cells (grownCap w ys.length 0 el - ys.length)).toList)
          (by rw [show (vals ++ (Builtin.zeroCells z.cells (grownCap w ys.length 0 el - ys.length)).toList).toArray = vals.toArray ++ Builtin.zeroCells z.cells (grownCap w ys.length 0 el - ys.length) from by apply Array.ext'; simp]; exact heap_alloc_new w.drew _)
          hR.len hR.el hR.one (fun k x j c hk hj => (hR.rel k x j c hk hj).imp fun q hq => ⟨hq.1, hm.vp hq.2⟩)
          (by simp only [List.length_append, hR.len, Array.length_toList, size_zeroCells, hzc, ← Nat.add_mul]; congr 1; omega) rfl hcapge
        refine .moved hr hm (fun ⟨cs, hcs⟩ => absurd (hr.hp _ _ hcs).1 hn) hnew.1 (.inl (run1 _ _ (by rw [hsn, hx]; exact hrun))) (.own (.inr rfl) ?_) (.inr rfl) _
        simp only [up, if_true]
        exact hnew.2
      · obtain ⟨ads, caps, hxs, hnils, hcells⟩ := hO.form
        have hsz2 : ads = some A ∧ xs.length = n ∧ caps = n := by
          rw [hsA] at hxs
          simp only [Value.slice.injEq] at hxs
          exact ⟨hxs.1.symm, hxs.2.1.symm, hxs.2.2.symm⟩
        obtain ⟨hA1, rfl, _⟩ := hsz2
        have hA := hO.append hR
        have htot : (xs ++ ys).length = xs.length + ys.length := List.length_append
        have hlt : xs.length < xs.length + ys.length := by omega
        have hrun := run_append_grow (P := P) w ty o.type el i z hE.und hi hiz A xs.length xs.length olds (by rw [hO.len, his]) (hcells A hA1) B ys.length cap vals (by rw [hR.len, his]) (hcell B rfl) hlt
          (by unfold maxLen at hml; omega) (growslice_fits hlt (by rw [hib]; exact hby))
        have hcapge := grownCap_ge w (xs.length + ys.length) xs.length el
        have hm : Moved C ρ U h w nm (.at w.heap.size 0 (grownCap w (xs.length + ys.length) xs.length el * sz)) (w.drew.alloc (.cells (olds.toArray ++ vals.toArray ++ Builtin.zeroCells z.cells (grownCap w (xs.length + ys.length) xs.length el - (xs.length + ys.length))) el)) :=
          ⟨rfl, rfl, rfl, by simp, fun g hg _ => Go.RowKit.Below.heap_alloc w.drew _ g hg, .inr (.inr ⟨hn, .inr ⟨w.heap.size, 0, _, rfl, Nat.le_refl _, by simp⟩⟩)⟩
        have hnew := new_row (w' := w.drew.alloc (.cells (olds.toArray ++ vals.toArray ++ Builtin.zeroCells z.cells (grownCap w (xs.length + ys.length) xs.length el - (xs.length + ys.length))) el))
          (ok := okc C (up ρ nm (.at w.heap.size 0 (grownCap w (xs.length + ys.length) xs.length el * sz))) (w.drew.alloc (.cells (olds.toArray ++ vals.toArray ++ Builtin.zeroCells z.cells (grownCap w (xs.length + ys.length) xs.length el - (xs.length + ys.length))) el)))
          (ρ' := up ρ nm (.at w.heap.size 0 (grownCap w (xs.length + ys.length) xs.length el * sz))) (U' := addU U nm) (el := el) (sz := sz) (g := w.heap.size) (m := xs.length + ys.length) (cap := grownCap w (xs.length + ys.length) xs.length el) (xs := xs ++ ys) (vals := olds ++ vals)
          (rest := (Builtin.zeroCells z.cells (grownCap w (xs.length + ys.length) xs.length el - (xs.length + ys.length))).toList)
          (by rw [show (olds ++ vals ++ (Builtin.zeroCells z.cells (grownCap w (xs.length + ys.length) xs.length el - (xs.length + ys.length))).toList).toArray = olds.toArray ++ vals.toArray ++ Builtin.zeroCells z.cells (grownCap w (xs.length + ys.length) xs.length el - (xs.length + ys.length)) from by apply Array.ext'; simp]; exact heap_alloc_new w.drew _)
          hA.1 hA.2.1 (fun q hq => (List.mem_append.1 hq).elim (hO.one q) (hR.one q)) (fun k x j c hk hj => (hA.2.2 k x j c hk hj).imp fun q hq => ⟨hq.1, hm.vp hq.2⟩)
          (by rw [List.length_append, hA.1, htot, zeros_len, hzc, ← Nat.add_mul]; congr 1; omega) htot.symm hcapge
        refine .moved hr hm (fun ⟨cs, hcs⟩ => absurd (hr.hp _ _ hcs).1 hn) hnew.1 (.inl (run1 _ _ (by rw [hsA, hx]; exact hrun))) (.own (.inr rfl) ?_) (.inr rfl) _
        simp only [up, if_true]
        exact hnew.2
    · cases he
  · -- onto a row of our own
    rename_i b sz' off len p ys hs hcn
    split at he
    · rename_i e' sz'' xs hb
      split at he
      · rename_i hss
        obtain ⟨h1, h2', h3'⟩ := hss
        subst h1; subst h2'; subst h3'
        split at he
        · -- there is room in the row
          rename_i hin
          simp only [Option.some.injEq] at he; subst he
          obtain ⟨vals, hR⟩ := news p ys hcn hp
          obtain ⟨ad, cap, hx, hnil, hcell⟩ := hR.form
          have hvs := ev_ok ht hs
          obtain ⟨hub, _, hown⟩ := hvs.own_inv
          by_cases hy0 : ys.length = 0
          · have hys : ys = [] := List.eq_nil_of_length_eq_zero hy0
            subst hys
            have hmv : Moved C ρ U h w b (ρ b) w := ⟨rfl, rfl, rfl, Nat.le_refl _, fun _ _ _ => rfl, .inl ⟨hub, rfl⟩⟩
            have hform : a.eval s = .slice none 0 0 ∨ ∃ A l1 c1, a.eval s = .slice (some A) l1 c1 ∧ l1 ≤ c1 := by
              have hrow := (hr.hp b _ hb).2
              cases hl : ρ b with
              | dead => rcases hrow with ⟨e', _⟩ | ⟨_, _, _, _, e', _⟩ <;> rw [hl] at e' <;> cases e'
              | nil => rw [hl] at hown; exact .inl hown.2
              | «at» g og n =>
                rw [hl] at hown
                rcases hown with ⟨_, _, hv | ⟨A, hv⟩⟩ | ⟨cap1, hlc, _, hv⟩
                · exact .inl hv
                · exact .inr ⟨A, 0, 0, hv, Nat.le_refl _⟩
                · exact .inr ⟨_, _, _, hv, hlc⟩
            have hrun : (Builtin.append_ #[ty, ty] o.type #[a.eval s, a.eval x]).run P w = .ok (a.eval s) w := by
              rcases hform with hv | ⟨A, l1, c1, hv, hle⟩
              · rw [hv, hx]
                cases ad <;> simp [Builtin.append_, run_underlying hE.und, sizeOf, typeInfo, hi, Builtin.lenOf, Builtin.firstCells, loadCells, loadCellsFrom]
              · rw [hv, hx]
                cases ad <;> simp [Builtin.append_, run_underlying hE.und, sizeOf, typeInfo, hi, Builtin.lenOf, Builtin.firstCells, loadCells, loadCellsFrom, storeCells, hle]
            simp only [List.length_nil, Nat.add_zero, List.nil_append, List.take_append_drop]
            refine Run.moved (b := b) (ob := .row el sz xs) hr hmv (fun ⟨cs, hcs⟩ => by rw [hb] at hcs; cases hcs) ?_ (.inl (run1 _ _ hrun)) (hmv.vr hvs) (.inl hub) _
            exact ObR.keep hmv (fun g o n hl => ⟨(hr.ownl g ⟨b, o, n, hl⟩).2, rfl⟩) (hr.hp b _ hb).2
          have hpos : 0 < ys.length := by omega
          obtain ⟨B, rfl⟩ : ∃ B, ad = some B := by
            cases ad with
            | none => exact absurd (by rw [hnil rfl]; rfl) (Nat.ne_of_gt hpos)
            | some B => exact ⟨B, rfl⟩
          obtain ⟨g, off0, n, cells, hl, hg, hcs, hxn, hrl, hcellr⟩ := row_at hr hb (by omega)
          rw [hl] at hown
          have hmul : (off + len + ys.length) * sz ≤ xs.length * sz := Nat.mul_le_mul_right _ hin
          rcases hown with ⟨h0, hno, _⟩ | ⟨cap0, hlc, hroom, hsv⟩
          · exfalso
            have h5 : (off + len + ys.length) * sz = off * sz + (len + ys.length) * sz := by rw [← Nat.add_mul]; congr 1; omega
            have h6 : 0 < (len + ys.length) * sz := Nat.mul_pos (by omega) hsz
            omega
          · have hfits : len + ys.length ≤ cap0 := by
              have h5 : (off + (len + ys.length)) * sz ≤ (off + cap0) * sz := by rw [hroom, ← Nat.add_assoc]; omega
              have := Nat.le_of_mul_le_mul_right h5 hsz
              omega
            have hvl : vals.length = ys.length * sz := hR.len
            have h7 : (off + len + ys.length) * sz = off * sz + len * sz + ys.length * sz := by rw [Nat.add_mul, Nat.add_mul]
            have h8 : (off + len) * sz = off * sz + len * sz := Nat.add_mul _ _ _
            have hst := run_storeCells_at P g (off0 + off * sz + len * sz) el vals 0 cells w hg (by omega) hR.one
            simp only [Nat.add_zero, List.append_assoc] at hst
            have hfc : (Builtin.firstCells sz ys.length (.slice (some B) ys.length cap)).run P w = .ok vals.toArray w := run_firstCells_some w sz ys.length B ys.length cap vals hvl (hcell B rfl)
            have hrun : (Builtin.append_ #[ty, ty] o.type #[a.eval s, a.eval x]).run P w = .ok (.slice (some ⟨g, off0 + off * sz, none⟩) (len + ys.length) cap0) (w.setRow g (pasted cells (off0 + off * sz + len * sz) vals.toArray)) := by
              rw [hsv, hx]
              simp [Builtin.append_, run_underlying hE.und, sizeOf, typeInfo, hi, Builtin.lenOf, hfits, hfc, add_plain, his, hst, pasted]
            have hmv : Moved C ρ U h w b (.at g off0 n) (w.setRow g (pasted cells (off0 + off * sz + len * sz) vals.toArray)) := by
              refine ⟨rfl, rfl, rfl, by simp, fun k hk hkb => ?_, .inl ⟨hub, hl.symm⟩⟩
              by_cases hkg : k = g
              · subst hkg; exact absurd hl (hkb off0 n)
              · exact heap_setRow_other w g k _ hkg
            have hps := pasted_size cells (off0 + off * sz + len * sz) vals.toArray (by simp; omega)
            have hgt : ∀ k : Nat, (xs.take (off + len) ++ (ys ++ xs.drop (off + len + ys.length)))[k]? = if k < off + len then xs[k]? else if k < off + len + ys.length then ys[k - (off + len)]? else xs[k]? :=
              fun k => splice_get xs ys (off + len) k hin
            refine Run.moved (b := b) (ob := .row el sz (xs.take (off + len) ++ (ys ++ xs.drop (off + len + ys.length)))) hr hmv (fun ⟨cs, hcs⟩ => by rw [hb] at hcs; cases hcs) ?_ (.inl (run1 _ _ hrun)) (.own (.inl hub) ⟨⟨_, _, _, rfl⟩, ?_⟩) (.inl hub) _
            · refine .inr ⟨g, off0, n, _, rfl, setRow_heap w g cells _ el (0, 0) hg, by rw [hps]; exact hcs, by
                rw [show (xs.take (off + len) ++ (ys ++ xs.drop (off + len + ys.length))).length = xs.length from by simp; omega]; exact hxn, fun k x' hk => ?_, fun k x' j c hk hj => ?_⟩
              · rw [hgt] at hk
                split at hk
                · exact hrl _ _ hk
                · split at hk
                  · exact hR.el _ _ hk
                  · exact hrl _ _ hk
              · rw [pasted_get _ _ _ (by simp; omega)]
                rw [hgt] at hk
                split at hk
                · rename_i hko
                  obtain ⟨u, hu1, hu2, hu3⟩ := hcellr k x' j c hk hj
                  have hjs : j < sz := by rw [← hrl k x' hk]; exact (List.getElem?_eq_some_iff.1 hj).1
                  have : (k + 1) * sz ≤ (off + len) * sz := Nat.mul_le_mul_right _ hko
                  rw [Nat.add_mul, Nat.one_mul] at this
                  rw [if_pos (by omega)]
                  exact ⟨u, hu1, hu2, hmv.vp hu3⟩
                · split at hk
                  · rename_i hko hkl
                    have hjs : j < sz := by rw [← hR.el _ x' hk]; exact (List.getElem?_eq_some_iff.1 hj).1
                    obtain ⟨v, hv1, hv2⟩ := hR.rel _ x' j c hk hj
                    have h9 : k * sz = (off + len) * sz + (k - (off + len)) * sz := by rw [← Nat.add_mul]; congr 1; omega
                    have h10 : (k - (off + len) + 1) * sz ≤ ys.length * sz := Nat.mul_le_mul_right _ (by omega)
                    rw [Nat.add_mul, Nat.one_mul] at h10
                    rw [if_neg (by omega), if_pos (by simp; omega)]
                    refine ⟨v, ?_, hR.one v (List.mem_iff_getElem?.2 ⟨_, hv1⟩), hmv.vp hv2⟩
                    rw [show off0 + (k * sz + j) - (off0 + off * sz + len * sz) = (k - (off + len)) * sz + j from by omega]
                    simpa using hv1
                  · rename_i hko hkl
                    obtain ⟨u, hu1, hu2, hu3⟩ := hcellr k x' j c hk hj
                    have h9 : (off + len + ys.length) * sz ≤ k * sz := Nat.mul_le_mul_right _ (by omega)
                    rw [if_neg (by omega), if_neg (by simp; omega)]
                    exact ⟨u, hu1, hu2, hmv.vp hu3⟩
            · have : up ρ b (.at g off0 n) b = .at g off0 n := by simp [up]
              rw [this]
              exact .inr ⟨cap0, hfits, hroom, rfl⟩
        rename_i hnrm
        simp only [Option.some.injEq] at he; subst he
        obtain ⟨hp1, hby, hml, hfit⟩ := hp
        obtain ⟨vals, hR⟩ := news p ys hcn hp1
        obtain ⟨ad, cap, hx, hnil, hcell⟩ := hR.form
        have hvs := ev_ok ht hs
        obtain ⟨hub, ⟨_, _, _, hsl⟩, hown⟩ := hvs.own_inv
        obtain ⟨olds, hO⟩ := contents_reads (p := off + len ≤ xs.length) (xs := (xs.drop off).take len) hr hsz hvs (by simp [contentsN, hb]) hfit
        obtain ⟨ads, caps, hxs, hnils, hcells⟩ := hO.form
        have hlen : ((xs.drop off).take len).length = len := by simp; omega
        have hnb : ∀ cs, get h b ≠ some (.box cs) := by intro cs e; rw [hb] at e; cases e
        have hA := hO.append hR
        have htot : ((xs.drop off).take len ++ ys).length = len + ys.length := by rw [List.length_append, hlen]
        have hne : ∀ e, get h b = some e → e = .row el sz xs := by intro e he'; rw [hb] at he'; cases he'; rfl
        have grow : ∀ (A : Addr) (old : Nat), ads = some A → a.eval s = .slice (some A) len old → old < len + ys.length → 0 < ys.length →
            ∀ pp, Run C ρ U h w nm ((execOp a.eval o).run P w) ⟨pp, .own nm sz 0 (len + ys.length), [(nm, .row el sz ((xs.drop off).take len ++ ys)), (b, .dead)]⟩ := by
          intro A old hA1 hA2 hlt hpos pp
          have had : ∃ B, ad = some B := by
            cases ad with
            | none => exact absurd (by rw [hnil rfl]; rfl) (Nat.ne_of_gt hpos)
            | some B => exact ⟨B, rfl⟩
          obtain ⟨B, rfl⟩ := had
          have hrun := run_append_grow (P := P) w ty o.type el i z hE.und hi hiz A len old olds (by rw [hO.len, his, hlen]) (hcells A hA1) B ys.length cap vals (by rw [hR.len, his]) (hcell B rfl) hlt
            (by unfold maxLen at hml; omega) (growslice_fits hlt (by rw [hib]; exact hby))
          have hcapge := grownCap_ge w (len + ys.length) old el
          have hm : Xfer C ρ U h w b nm (.at w.heap.size 0 (grownCap w (len + ys.length) old el * sz)) (w.drew.alloc (.cells (olds.toArray ++ vals.toArray ++ Builtin.zeroCells z.cells (grownCap w (len + ys.length) old el - (len + ys.length))) el)) :=
            ⟨rfl, rfl, rfl, by simp, fun g hg _ => Go.RowKit.Below.heap_alloc w.drew _ g hg, hub, hn, hnb, .inr ⟨w.heap.size, 0, _, rfl, .inl ⟨Nat.le_refl _, by simp⟩⟩⟩
          have hnew := new_row (w' := w.drew.alloc (.cells (olds.toArray ++ vals.toArray ++ Builtin.zeroCells z.cells (grownCap w (len + ys.length) old el - (len + ys.length))) el))
            (ok := okc C (up2 ρ b nm (.at w.heap.size 0 (grownCap w (len + ys.length) old el * sz))) (w.drew.alloc (.cells (olds.toArray ++ vals.toArray ++ Builtin.zeroCells z.cells (grownCap w (len + ys.length) old el - (len + ys.length))) el)))
            (ρ' := up2 ρ b nm (.at w.heap.size 0 (grownCap w (len + ys.length) old el * sz))) (U' := addU U nm) (el := el) (sz := sz) (g := w.heap.size) (m := len + ys.length) (cap := grownCap w (len + ys.length) old el) (xs := (xs.drop off).take len ++ ys) (vals := olds ++ vals)
            (rest := (Builtin.zeroCells z.cells (grownCap w (len + ys.length) old el - (len + ys.length))).toList)
            (by rw [show (olds ++ vals ++ (Builtin.zeroCells z.cells (grownCap w (len + ys.length) old el - (len + ys.length))).toList).toArray = olds.toArray ++ vals.toArray ++ Builtin.zeroCells z.cells (grownCap w (len + ys.length) old el - (len + ys.length)) from by apply Array.ext'; simp]; exact heap_alloc_new w.drew _)
            hA.1 hA.2.1 (fun q hq => (List.mem_append.1 hq).elim (hO.one q) (hR.one q)) (fun k x j c hk hj => (hA.2.2 k x j c hk hj).imp fun q hq => ⟨hq.1, hm.vp hq.2⟩)
            (by rw [List.length_append, hA.1, htot, zeros_len, hzc, ← Nat.add_mul]; congr 1; omega) htot.symm hcapge
          refine Run.xfer hr hm hnew.1 (run1 _ _ (by rw [hA2, hx]; exact hrun)) (.own (.inr rfl) ?_) _
          have : up2 ρ b nm (.at w.heap.size 0 (grownCap w (len + ys.length) old el * sz)) nm = .at w.heap.size 0 (grownCap w (len + ys.length) old el * sz) := by simp [up2, up]
          rw [this]
          exact hnew.2
        have hrow := (hr.hp b _ hb).2
        have onto_nil : len = 0 → a.eval s = .slice none 0 0 →
            ∀ pp, Run C ρ U h w nm ((execOp a.eval o).run P w) ⟨pp, .own nm sz 0 (len + ys.length), [(nm, .row el sz ((xs.drop off).take len ++ ys)), (b, .dead)]⟩ := by
          intro h0 hsv pp
          subst h0
          simp only [List.take_zero, List.nil_append, Nat.zero_add] at hA htot hml hby ⊢
          by_cases hy0 : ys.length = 0
          · have hys : ys = [] := List.eq_nil_of_length_eq_zero hy0
            subst hys
            have hrun : (Builtin.append_ #[ty, ty] o.type #[a.eval s, a.eval x]).run P w = .ok (.slice none 0 0) w := by
              rw [hsv, hx]
              cases ad <;> simp [Builtin.append_, run_underlying hE.und, sizeOf, typeInfo, hi, Builtin.lenOf, Builtin.firstCells, loadCells, loadCellsFrom]
            have hm : Xfer C ρ U h w b nm .nil w := ⟨rfl, rfl, rfl, Nat.le_refl _, fun _ _ _ => rfl, hub, hn, hnb, .inl rfl⟩
            refine Run.xfer (ob := .row el sz []) hr hm (Or.inl ⟨rfl, rfl⟩) (run1 _ _ hrun) (.own (.inr rfl) ⟨⟨_, _, _, rfl⟩, ?_⟩) _
            simp [up2, up]
          · have had : ∃ B, ad = some B := by
              cases ad with
              | none => exact absurd (by rw [hnil rfl]; rfl) hy0
              | some B => exact ⟨B, rfl⟩
            obtain ⟨B, rfl⟩ := had
            have hrun := run_append_nil (P := P) w ty o.type el i z hE.und hi hiz B ys.length cap vals (by rw [hR.len, his]) (hcell B rfl) (by omega) (by unfold maxLen at hml; omega) (by rw [hib]; omega)
            have hcapge := grownCap_ge w ys.length 0 el
            have hm : Xfer C ρ U h w b nm (.at w.heap.size 0 (grownCap w ys.length 0 el * sz)) (w.drew.alloc (.cells (vals.toArray ++ Builtin.zeroCells z.cells (grownCap w ys.length 0 el - ys.length)) el)) :=
              ⟨rfl, rfl, rfl, by simp, fun g hg _ => Go.RowKit.Below.heap_alloc w.drew _ g hg, hub, hn, hnb, .inr ⟨w.heap.size, 0, _, rfl, .inl ⟨Nat.le_refl _, by simp⟩⟩⟩
            have hnew := new_row (w' := w.drew.alloc (.cells (vals.toArray ++ Builtin.zeroCells z.cells (grownCap w ys.length 0 el - ys.length)) el)) (ok := okc C (up2 ρ b nm (.at w.heap.size 0 (grownCap w ys.length 0 el * sz))) (w.drew.alloc (.cells (vals.toArray ++ Builtin.zeroCells z.cells (grownCap w ys.length 0 el - ys.length)) el)))
              (ρ' := up2 ρ b nm (.at w.heap.size 0 (grownCap w ys.length 0 el * sz))) (U' := addU U nm) (el := el) (sz := sz) (g := w.heap.size) (m := ys.length) (cap := grownCap w ys.length 0 el) (xs := ys) (vals := vals) (rest := (Builtin.zeroCells z.cells (grownCap w ys.length 0 el - ys.length)).toList)
              (by rw [show (vals ++ (Builtin.zeroCells z.cells (grownCap w ys.length 0 el - ys.length)).toList).toArray = vals.toArray ++ Builtin.zeroCells z.cells (grownCap w ys.length 0 el - ys.length) from by apply Array.ext'; simp]; exact heap_alloc_new w.drew _)
              hR.len hR.el hR.one (fun k x j c hk hj => (hR.rel k x j c hk hj).imp fun q hq => ⟨hq.1, hm.vp hq.2⟩)
              (by rw [List.length_append, hR.len, zeros_len, hzc, ← Nat.add_mul]; congr 1; omega) rfl hcapge
            refine Run.xfer hr hm hnew.1 (run1 _ _ (by rw [hsv, hx]; exact hrun)) (.own (.inr rfl) ?_) _
            have : up2 ρ b nm (.at w.heap.size 0 (grownCap w ys.length 0 el * sz)) nm = .at w.heap.size 0 (grownCap w ys.length 0 el * sz) := by simp [up2, up]
            rw [this]
            exact hnew.2
        cases hl : ρ b with
        | dead => rcases hrow with ⟨e', _⟩ | ⟨_, _, _, _, e', _⟩ <;> rw [hl] at e' <;> cases e'
        | nil =>
          rw [hl] at hown
          exact onto_nil hown.1 hown.2 _
        | «at» g off0 n =>
          rw [hl] at hown
          rcases hown with ⟨h0, hno, hsv | ⟨A, hsv⟩⟩ | ⟨cap0, hlc, hroom, hsv⟩
          · exact onto_nil h0 hsv _
          · by_cases hy0 : ys.length = 0
            · have hys : ys = [] := List.eq_nil_of_length_eq_zero hy0
              subst hys; subst h0
              have hrun : (Builtin.append_ #[ty, ty] o.type #[a.eval s, a.eval x]).run P w = .ok (.slice (some A) 0 0) w := by
                rw [hsv, hx]
                cases ad <;> simp [Builtin.append_, run_underlying hE.und, sizeOf, typeInfo, hi, Builtin.lenOf, Builtin.firstCells, loadCells, loadCellsFrom, storeCells]
              have hm : Xfer C ρ U h w b nm (.at g off0 0) w := ⟨rfl, rfl, rfl, Nat.le_refl _, fun _ _ _ => rfl, hub, hn, hnb, .inr ⟨g, off0, 0, rfl, .inr ⟨off0, n, hl⟩⟩⟩
              simp only [List.take_zero, List.nil_append, Nat.zero_add]
              refine Run.xfer (ob := .row el sz []) hr hm ?_ (run1 _ _ hrun) (.own (.inr rfl) ⟨⟨_, _, _, rfl⟩, ?_⟩) _
              · rcases hrow with ⟨e', _⟩ | ⟨g', o', n', cells, e', hg, hcs, _⟩
                · rw [hl] at e'; cases e'
                · rw [hl] at e'; cases e'
                  exact .inr ⟨g, off0, 0, cells, rfl, hg, by omega, by simp, by simp, by simp⟩
              · simp [up2, up]
            · have hA2 : ads = some A := by rw [hsv] at hxs; injection hxs with e1; exact e1.symm
              subst h0
              exact grow A 0 hA2 hsv (by omega) (by omega) _
          · have hA2 : ads = some ⟨g, off0 + off * sz, none⟩ := by rw [hsv] at hxs; injection hxs with e1; exact e1.symm
            rcases hrow with ⟨e', _⟩ | ⟨g', o', n', cells, e', hg, hcs, hxn, hrl, hcellr⟩
            · rw [hl] at e'; cases e'
            · rw [hl] at e'; cases e'
              by_cases hfits : len + ys.length ≤ cap0
              · -- in place
                have hmul : (off + (len + ys.length)) * sz ≤ (off + cap0) * sz := Nat.mul_le_mul_right _ (by omega)
                rw [Nat.add_mul off, Nat.add_mul len] at hmul
                have hvl : vals.length = ys.length * sz := hR.len
                have hst := run_storeCells_at P g (off0 + off * sz + len * sz) el vals 0 cells w hg (by omega) hR.one
                simp only [Nat.add_zero, List.append_assoc] at hst
                have hfc : (Builtin.firstCells sz ys.length (.slice ad ys.length cap)).run P w = .ok vals.toArray w := by
                  cases ad with
                  | none =>
                    have := hnil rfl
                    subst this
                    have hv0 : vals = [] := List.eq_nil_of_length_eq_zero (by simpa using hvl)
                    rw [hv0]
                    exact run_firstCells_none w sz 0 0 cap
                  | some B => exact run_firstCells_some w sz ys.length B ys.length cap vals hvl (hcell B rfl)
                have hrun : (Builtin.append_ #[ty, ty] o.type #[a.eval s, a.eval x]).run P w = .ok (.slice (some ⟨g, off0 + off * sz, none⟩) (len + ys.length) cap0) (w.setRow g (pasted cells (off0 + off * sz + len * sz) vals.toArray)) := by
                  rw [hsv, hx]
                  simp [Builtin.append_, run_underlying hE.und, sizeOf, typeInfo, hi, Builtin.lenOf, hfits, hfc, add_plain, his, hst, pasted]
                have hm : Xfer C ρ U h w b nm (.at g (off0 + off * sz) (n - off * sz)) (w.setRow g (pasted cells (off0 + off * sz + len * sz) vals.toArray)) := by
                  refine ⟨rfl, rfl, rfl, by simp, fun k hk hkb => ?_, hub, hn, hnb, .inr ⟨g, _, _, rfl, .inr ⟨off0, n, hl⟩⟩⟩
                  by_cases hkg : k = g
                  · subst hkg; exact absurd hl (hkb off0 n)
                  · exact heap_setRow_other w g k _ hkg
                have hps := pasted_size cells (off0 + off * sz + len * sz) vals.toArray (by simp; omega)
                refine Run.xfer hr hm ?_ (run1 _ _ hrun) (.own (.inr rfl) ⟨⟨_, _, _, rfl⟩, ?_⟩) _
                · refine .inr ⟨g, _, _, _, rfl, setRow_heap w g cells _ el (0, 0) hg, by rw [hps]; omega, by rw [htot, Nat.add_mul]; omega, hA.2.1, fun k x' j c hk hj => ?_⟩
                  have hjs : j < sz := by rw [← hA.2.1 k x' hk]; exact (List.getElem?_eq_some_iff.1 hj).1
                  rw [List.getElem?_append, hlen] at hk
                  split at hk
                  · rename_i hkl
                    rw [List.getElem?_take, if_pos hkl, List.getElem?_drop] at hk
                    obtain ⟨u, hu1, hu2, hu3⟩ := hcellr _ x' j c hk hj
                    refine ⟨u, ?_, hu2, hm.vp hu3⟩
                    have h3 : k * sz + sz ≤ len * sz := by
                      have : (k + 1) * sz ≤ len * sz := Nat.mul_le_mul_right _ hkl
                      rw [Nat.add_mul, Nat.one_mul] at this
                      exact this
                    rw [pasted_get _ _ _ (by simp; omega), if_pos (by omega)]
                    rw [show off0 + off * sz + (k * sz + j) = off0 + ((off + k) * sz + j) from by rw [Nat.add_mul]; omega]
                    exact hu1
                  · rename_i hkl
                    obtain ⟨v, hv1, hv2⟩ := hR.rel _ x' j c hk hj
                    have hvlt := (List.getElem?_eq_some_iff.1 hv1).1
                    refine ⟨v, ?_, hR.one v (List.mem_iff_getElem?.2 ⟨_, hv1⟩), hm.vp hv2⟩
                    have h3 : k * sz = len * sz + (k - len) * sz := by rw [← Nat.add_mul]; congr 1; omega
                    rw [pasted_get _ _ _ (by simp; omega), if_neg (by omega), if_pos (by simp; omega)]
                    rw [show off0 + off * sz + (k * sz + j) - (off0 + off * sz + len * sz) = (k - len) * sz + j from by omega]
                    simpa using hv1
                · have : up2 ρ b nm (.at g (off0 + off * sz) (n - off * sz)) nm = .at g (off0 + off * sz) (n - off * sz) := by simp [up2, up]
                  rw [this]
                  refine .inr ⟨cap0, hfits, ?_, by simp⟩
                  rw [Nat.zero_add]
                  rw [Nat.add_mul] at hroom
                  omega
              · have hpos : 0 < ys.length := by omega
                exact grow _ cap0 hA2 hsv (by omega) hpos _
      · cases he
    · cases he
  · cases he
end
end Go.Eng
namespace Go.Eng
open Go
section
variable {P : Program} {C : Ctx} {ρ : Nat → Loc} {U : Nat → Prop} {h : List (Nat × Ob)} {w : World} {nm : Nat} {t : List (Nat × AV)} {a : Act} {o : Oper} {e : E}
theorem foldl_set (off : Nat) : ∀ (vs : List Value) (k : Nat) (cells : Array Value), off + k + vs.length ≤ cells.size →
    ((vs.zipIdx k).foldl (fun cs (x : Value × Nat) => cs.setIfInBounds (off + x.2) x.1) cells).size = cells.size ∧
    ∀ i : Nat, ((vs.zipIdx k).foldl (fun cs (x : Value × Nat) => cs.setIfInBounds (off + x.2) x.1) cells)[i]? =
      if i < off + k then cells[i]? else if i < off + k + vs.length then vs[i - (off + k)]? else cells[i]?
  | [], k, cells, _ => by
    refine ⟨rfl, fun i => ?_⟩
    simp only [List.zipIdx_nil, List.foldl_nil, List.length_nil, Nat.add_zero]
    split
    · rfl
    · rfl
  | v :: vs, k, cells, hl => by
    simp only [List.length_cons] at hl
    have ih := foldl_set off vs (k + 1) (cells.setIfInBounds (off + k) v) (by simp; omega)
    simp only [List.zipIdx_cons, List.foldl_cons]
    refine ⟨by rw [ih.1]; simp, fun i => ?_⟩
    rw [ih.2 i]
    simp only [List.length_cons, Array.getElem?_setIfInBounds]
    by_cases h1 : i < off + k
    · rw [if_pos (by omega), if_pos h1, if_neg (by omega)]
    · rw [if_neg h1]
      by_cases h2 : i = off + k
      · subst h2
        rw [if_pos (by omega), if_pos rfl, if_pos (by omega), if_pos (by omega), Nat.sub_self]
        rfl
      · have e1 : ¬ off + k = i := fun e => h2 e.symm
        have e2 : ¬ i < off + (k + 1) := by omega
        simp only [e1, e2, if_false]
        by_cases h3 : i < off + k + (vs.length + 1)
        · rw [if_pos (by omega), if_pos h3]
          rw [show i - (off + k) = i - (off + (k + 1)) + 1 from by omega]
          simp
        · rw [if_neg (by omega), if_neg h3]
theorem fill_one (off : Nat) (v cells : Array Value) (hl : off + v.size ≤ cells.size) :
    v.zipIdx.foldl (fun cs (x : Value × Nat) => cs.setIfInBounds (off + x.2) x.1) cells = pasted cells off v := by
  have h0 := foldl_set off v.toList 0 cells (by simpa using hl)
  have e : v.zipIdx.foldl (fun cs (x : Value × Nat) => cs.setIfInBounds (off + x.2) x.1) cells = (v.toList.zipIdx 0).foldl (fun cs (x : Value × Nat) => cs.setIfInBounds (off + x.2) x.1) cells := by
    rw [← Array.foldl_toList, Array.toList_zipIdx]
  rw [e]
  apply Array.ext_getElem?
  intro i
  rw [h0.2 i, pasted_get _ _ _ hl]
  simp
theorem fill_ok {ok : Nat → Prop} (place : Nat → Option (Nat × Nat)) : ∀ (ps : List (Nat × Value)) (qs : List (Nat × List AV)) (cells : Array Value) (cs cs' : List AV),
    VL w ok ρ U cs cells → fillA cs qs = some cs' → ps.length = qs.length →
    (∀ (i : Nat) (p : Nat × Value) (q : Nat × List AV), ps[i]? = some p → qs[i]? = some q → place p.1 = some (q.1, q.2.length) ∧ VL w ok ρ U q.2 p.2.cells) →
    ∃ cells', Instr.fill place cells ps = some cells' ∧ VL w ok ρ U cs' cells'
  | [], [], cells, cs, cs', hv, hf, _, _ => by
    simp only [fillA, Option.some.injEq] at hf; subst hf
    exact ⟨cells, rfl, hv⟩
  | p :: ps, q :: qs, cells, cs, cs', hv, hf, hl, hpq => by
    obtain ⟨off, ys⟩ := q
    obtain ⟨hpl, hvl⟩ := hpq 0 p (off, ys) rfl rfl
    simp only [fillA] at hf
    split at hf
    · rename_i hfit
      have h1 := hvl.1
      have h2 := hv.1
      simp only at h1 hpl hvl
      have hstep : VL w ok ρ U (splice cs off ys) (pasted cells off p.2.cells) := by
        refine ⟨by rw [splice_length _ _ _ hfit, pasted_size _ _ _ (by omega)]; exact h2, fun i c u hi hu => ?_⟩
        rw [splice, splice_get _ _ _ _ hfit] at hi
        rw [pasted_get _ _ _ (by omega)] at hu
        by_cases c1 : i < off
        · rw [if_pos c1] at hi hu; exact hv.2 i c u hi hu
        · rw [if_neg c1] at hi hu
          by_cases c2 : i < off + ys.length
          · rw [if_pos c2] at hi
            rw [if_pos (by omega)] at hu
            exact hvl.2 _ c u hi hu
          · rw [if_neg c2] at hi
            rw [if_neg (by omega)] at hu
            exact hv.2 i c u hi hu
      obtain ⟨cells', hc, hv'⟩ := fill_ok place ps qs (pasted cells off p.2.cells) _ cs' hstep hf (by simpa using hl) (fun i p' q' h1 h2 => hpq (i + 1) p' q' (by simpa using h1) (by simpa using h2))
      refine ⟨cells', ?_, hv'⟩
      simp only [Instr.fill, hpl]
      rw [if_neg (by simp; omega)]
      rw [fill_one _ _ _ (by omega)]
      exact hc
    · cases hf
theorem partsA_ok (ht : Tm C ρ U w t a) : ∀ (ps : List (Nat × Nat × Operand)) (qs : List (Nat × List AV)), partsA t ps = some qs → ps.length = qs.length ∧
    ∀ (i : Nat) (p : Nat × Nat × Operand) (q : Nat × List AV), ps[i]? = some p → qs[i]? = some q → p.1 = q.1 ∧ p.2.1 = q.2.length ∧ VL w (okc C ρ w) ρ U q.2 (a.eval p.2.2).cells
  | [], qs, hq => by simp only [partsA, Option.some.injEq] at hq; subst hq; simp
  | (off, sz, x) :: ps, qs, hq => by
    simp only [partsA] at hq
    split at hq
    · rename_i y l hy hl
      split at hq
      · rename_i ys hys
        split at hq
        · rename_i hlen
          simp only [Option.some.injEq] at hq; subst hq
          have ih := partsA_ok ht ps l hl
          refine ⟨by simp [ih.1], fun i p q hp hq => ?_⟩
          cases i with
          | zero =>
            simp at hp hq; subst hp; subst hq
            exact ⟨rfl, hlen.symm, (cellsA_ok (ev_ok ht hy) hys).1⟩
          | succ i => exact ih.2 i p q (by simpa using hp) (by simpa using hq)
        · cases hq
      · cases hq
    · cases hq
theorem zeros_VL {ok : Nat → Prop} {z : Value} : VL w ok ρ U (z.cells.toList.map .v) z.cells := by
  refine ⟨by simp, fun i c u h1 h2 => ?_⟩
  simp only [List.getElem?_map] at h1
  rw [← Array.getElem?_toList] at h2
  rw [h2] at h1
  simp at h1; subst h1
  exact .p (.v _)
theorem zerosOf_info {el : TypeId} {zs : List Value} (hz : zerosOf P el = some zs) : ∃ i z, P.info? el = some i ∧ i.zero = some z ∧ z.cells.toList = zs := by
  unfold zerosOf at hz
  split at hz
  · rename_i i hi
    split at hz
    · rename_i z hiz
      simp only [Option.some.injEq] at hz
      exact ⟨i, z, hi, hiz, hz⟩
    · cases hz
  · cases hz
theorem stripParts_ok {fs : Array Field} : ∀ (l : List (Nat × Operand)) (r : List (Nat × Nat × Operand)), stripParts P fs l = some r → l.length = r.length ∧
    ∀ (i : Nat) (p : Nat × Operand) (q : Nat × Nat × Operand), l[i]? = some p → r[i]? = some q → p.2 = q.2.2 ∧ ∃ f, fs[p.1]? = some f ∧ f.offset = q.1 ∧ sizeP P f.type = some q.2.1
  | [], r, hr => by simp only [stripParts, Option.some.injEq] at hr; subst hr; simp
  | (i, x) :: l, r, hr => by
    simp only [stripParts] at hr
    split at hr
    · rename_i f hf
      split at hr
      · rename_i sz hs
        split at hr
        · rename_i r' hr'
          simp only [Option.some.injEq] at hr; subst hr
          have ih := stripParts_ok l r' hr'
          refine ⟨by simp [ih.1], fun j p q hp hq => ?_⟩
          cases j with
          | zero => simp at hp hq; subst hp; subst hq; exact ⟨rfl, f, hf, rfl, hs⟩
          | succ j => exact ih.2 j p q (by simpa using hp) (by simpa using hq)
        · cases hr
      · cases hr
    · cases hr
theorem s_build (hr : HR C ρ U h w) (ht : Tm C ρ U w t a) {ty : TypeId} {fs : Array Field} {zs : List Value} {parts : Array (Nat × Operand)} {ps : List (Nat × Nat × Operand)}
    (h1 : P.underlying ty = some (.struct fs)) (hz : zerosOf P ty = some zs) (hps : stripParts P fs parts.toList = some ps) (hsz : ∀ f ∈ fs.toList, (sizeP P f.type).isSome = true)
    (ho : o.op = .build ty parts) (he : eff nm t h (.build zs ps) = some e) : Run C ρ U h w nm ((execOp a.eval o).run P w) e := by
  simp only [eff] at he
  split at he
  · rename_i qs hqs
    split at he
    · rename_i cs hcs
      simp only [E.ok, Option.some.injEq] at he; subst he
      obtain ⟨i, z, hi, hiz, hzl⟩ := zerosOf_info hz
      subst hzl
      have hS := stripParts_ok _ _ hps
      have hA := partsA_ok ht _ _ hqs
      have hplaces : ∀ (l : List Field), (∀ f ∈ l, (sizeP P f.type).isSome = true) → ∀ w, (l.mapM (m := Sem) fun f => do pure (f.offset, ← sizeOf f.type)).run P w = .ok (l.map fun f => (f.offset, (sizeP P f.type).getD 0)) w := by
        intro l
        induction l with
        | nil => intro _ w; simp
        | cons f l ih =>
          intro hl w
          have hf := hl f (by simp)
          obtain ⟨n, hn⟩ := Option.isSome_iff_exists.1 hf
          simp only [List.mapM_cons, Sem.run_bind, run_sizeP hn, Result.andThen_ok, Sem.run_pure, ih (fun g hg => hl g (by simp [hg])), List.map_cons, hn, Option.getD_some]
      have hplacesA : (fs.mapM (m := Sem) fun f => do pure (f.offset, ← sizeOf f.type)).run P w = .ok (fs.toList.map fun f => (f.offset, (sizeP P f.type).getD 0)).toArray w := by
        rw [Array.mapM_eq_mapM_toList, Sem.run_map, hplaces _ hsz w]
        rfl
      have hfill := fill_ok (w := w) (ρ := ρ) (U := U) (ok := okc C ρ w) (fun k => ((fs.toList.map fun f => (f.offset, (sizeP P f.type).getD 0)).toArray)[k]?) (parts.toList.map fun p => (p.1, a.eval p.2)) qs z.cells _ cs zeros_VL hcs
        (by rw [List.length_map, hS.1, hA.1]) (fun k p q hp hq => by
          simp only [List.getElem?_map, Option.map_eq_some_iff] at hp
          obtain ⟨p0, hp0, rfl⟩ := hp
          have hlt : k < ps.length := by rw [hA.1]; exact (List.getElem?_eq_some_iff.1 hq).1
          have hp1 := List.getElem?_eq_getElem hlt
          obtain ⟨e1, f, hf, e2, e3⟩ := hS.2 k p0 _ hp0 hp1
          obtain ⟨e4, e5, e6⟩ := hA.2 k _ q hp1 hq
          refine ⟨?_, by rw [e1]; exact e6⟩
          simp only [List.getElem?_toArray, List.getElem?_map, Array.getElem?_toList, hf, Option.map_some, e3, Option.getD_some, e2, e4, e5])
      obtain ⟨cells', hc, hv⟩ := hfill
      have hrun : (execOp a.eval o).run P w = .ok (.value (.agg cells')) w := by
        have e0 : (parts.map fun (x : Nat × Operand) => (x.1, a.eval x.2)).toList = parts.toList.map fun p => (p.1, a.eval p.2) := by simp
        simp only [execOp, ho, Instr.build, Sem.run_bind, zeroValue, typeInfo, run_program, hi, hiz, Sem.run_pure, Result.andThen_ok, run_underlying h1, hplacesA]
        rw [e0, hc]
        rfl
      rw [hrun]
      exact .same hr (.agg hv.1 hv.2) True
    · cases he
  · cases he
end
end Go.Eng
namespace Go.Eng
open Go
section
variable {P : Program} {C : Ctx} {ρ : Nat → Loc} {U : Nat → Prop} {h : List (Nat × Ob)} {w : World} {nm : Nat} {t : List (Nat × AV)} {a : Act} {o : Oper} {e : E}
theorem s_buildA (hr : HR C ρ U h w) (ht : Tm C ρ U w t a) {ty el : TypeId} {n sz : Nat} {zs : List Value} {parts : Array (Nat × Operand)}
    (h1 : P.underlying ty = some (.array n el)) (hz : zerosOf P ty = some zs) (hs : sizeP P el = some sz)
    (ho : o.op = .build ty parts) (he : eff nm t h (.build zs (parts.toList.map fun p => (p.1 * sz, sz, p.2))) = some e) : Run C ρ U h w nm ((execOp a.eval o).run P w) e := by
  simp only [eff] at he
  split at he
  · rename_i qs hqs
    split at he
    · rename_i cs hcs
      simp only [E.ok, Option.some.injEq] at he; subst he
      obtain ⟨i, z, hi, hiz, hzl⟩ := zerosOf_info hz
      subst hzl
      have hA := partsA_ok ht _ _ hqs
      have hfill := fill_ok (w := w) (ρ := ρ) (U := U) (ok := okc C ρ w) (fun k => some (k * sz, sz)) (parts.toList.map fun p => (p.1, a.eval p.2)) qs z.cells _ cs zeros_VL hcs
        (by rw [List.length_map, ← hA.1, List.length_map]) (fun k p q hp hq => by
          simp only [List.getElem?_map, Option.map_eq_some_iff] at hp
          obtain ⟨p0, hp0, rfl⟩ := hp
          obtain ⟨e4, e5, e6⟩ := hA.2 k (p0.1 * sz, sz, p0.2) q (by simp [hp0]) hq
          simp only at e4 e5 e6 ⊢
          exact ⟨by rw [e4, ← e5], e6⟩)
      obtain ⟨cells', hc, hv⟩ := hfill
      have hrun : (execOp a.eval o).run P w = .ok (.value (.agg cells')) w := by
        have e0 : (parts.map fun (x : Nat × Operand) => (x.1, a.eval x.2)).toList = parts.toList.map fun p => (p.1, a.eval p.2) := by simp
        simp only [execOp, ho, Instr.build, Sem.run_bind, zeroValue, typeInfo, run_program, hi, hiz, Sem.run_pure, Result.andThen_ok, run_underlying h1, run_sizeP hs]
        rw [e0, hc]
        rfl
      rw [hrun]
      exact .same hr (.agg hv.1 hv.2) True
    · cases he
  · cases he
theorem part_plain {ty : TypeId} {cs : Array Value} {off : Nat} {v : Value} (hu : (∃ q, P.underlying ty = some (.int q)) ∨ P.underlying ty = some .string ∨ P.underlying ty = some .bool) (hv : cs[off]? = some v) (w : World) :
    (part ty cs off).run P w = .ok v w := by
  have ha : aggP P ty = some false := by
    unfold aggP
    rcases hu with ⟨q, hu⟩ | hu | hu <;> rw [hu]
  simp only [part, Sem.run_bind, run_isAgg ha, Result.andThen_ok, Bool.false_eq_true, if_false, hv, Sem.run_pure]
section
variable {P : Program} {w : World}
def kindOK (P : Program) (k : Nat) (ty : TypeId) : Prop := (k = 0 ∧ ∃ q, P.underlying ty = some (.int q)) ∨ (k = 1 ∧ P.underlying ty = some .string) ∨ (k = 2 ∧ P.underlying ty = some .bool)
def EqC (P : Program) (w : World) : List Nat → List Value → List Value → Bool → Prop
  | [], [], [], b => b = true
  | k :: ks, u :: us, v :: vs, b => ∃ b1 b2, b = (b1 && b2) ∧ (∀ d ty, kindOK P k ty → (Op.equalIn (d + 1) ty u v).run P w = .ok b1 w) ∧ EqC P w ks us vs b2
  | _, _, _, _ => False
theorem EqC.len : ∀ {ks us vs b}, EqC P w ks us vs b → us.length = ks.length ∧ vs.length = ks.length
  | [], [], [], b, h => ⟨rfl, rfl⟩
  | k :: ks, u :: us, v :: vs, b, h => by
    obtain ⟨b1, b2, _, _, h⟩ := h
    have := h.len
    simp [this.1, this.2]
theorem EqC.split : ∀ {k1 k2 us vs b}, EqC P w (k1 ++ k2) us vs b → ∃ b1 b2, b = (b1 && b2) ∧ EqC P w k1 (us.take k1.length) (vs.take k1.length) b1 ∧ EqC P w k2 (us.drop k1.length) (vs.drop k1.length) b2
  | [], k2, us, vs, b, h => ⟨true, b, by simp, by simp [EqC], by simpa using h⟩
  | k :: k1, k2, u :: us, v :: vs, b, h => by
    obtain ⟨b1, b2, rfl, h1, h2⟩ := h
    obtain ⟨c1, c2, rfl, g1, g2⟩ := EqC.split h2
    exact ⟨b1 && c1, c2, by simp [Bool.and_assoc], ⟨b1, c1, rfl, h1, by simpa using g1⟩, by simpa using g2⟩
theorem kindsOf_cons {f : Field} {fs : List Field} {i : Nat} {ks : List Nat} (h : kindsOf P (f :: fs) i = some ks) : f.offset = i ∧ f.name ≠ "_" ∧ ∃ k ks', ks = k :: ks' ∧ kindOK P k f.type ∧ kindsOf P fs (i + 1) = some ks' := by
  simp only [kindsOf] at h
  split at h
  · rename_i hc
    refine ⟨hc.1, hc.2, ?_⟩
    split at h
    · rename_i q ks' hu hks
      simp only [Option.some.injEq] at h
      exact ⟨0, ks', h.symm, .inl ⟨rfl, q, hu⟩, hks⟩
    · rename_i ks' hu hks
      simp only [Option.some.injEq] at h
      exact ⟨1, ks', h.symm, .inr (.inl ⟨rfl, hu⟩), hks⟩
    · rename_i ks' hu hks
      simp only [Option.some.injEq] at h
      exact ⟨2, ks', h.symm, .inr (.inr ⟨rfl, hu⟩), hks⟩
    · cases h
  · cases h
theorem kindOK.plain {k : Nat} {ty : TypeId} (h : kindOK P k ty) : (∃ q, P.underlying ty = some (.int q)) ∨ P.underlying ty = some .string ∨ P.underlying ty = some .bool := h.imp (·.2) fun h => h.imp (·.2) (·.2)
theorem eqC_flat : ∀ {fs : List Field} {i : Nat} {ks : List Nat} {us vs : List Value} {b : Bool} {d : Nat} {xs ys : Array Value}, kindsOf P fs i = some ks → EqC P w ks us vs b →
    (∀ j v, us[j]? = some v → xs[i + j]? = some v) → (∀ j v, vs[j]? = some v → ys[i + j]? = some v) → (Op.eqFields (d + 1) xs ys fs).run P w = .ok b w
  | [], i, ks, us, vs, b, d, xs, ys, hk, he, _, _ => by
    simp only [kindsOf, Option.some.injEq] at hk; subst hk
    cases us <;> cases vs <;> simp [EqC] at he
    subst he; rfl
  | f :: fs, i, ks, us, vs, b, d, xs, ys, hk, he, hx, hy => by
    obtain ⟨h1, h2, k, ks', rfl, h3, h4⟩ := kindsOf_cons hk
    cases us with
    | nil => simp [EqC] at he
    | cons u us =>
      cases vs with
      | nil => simp [EqC] at he
      | cons v vs =>
        obtain ⟨b1, b2, rfl, g1, g2⟩ := he
        have ih := eqC_flat (d := d) h4 g2 (fun j v hj => by rw [show i + 1 + j = i + (j + 1) from by omega]; exact hx (j + 1) v (by simpa using hj)) (fun j v hj => by rw [show i + 1 + j = i + (j + 1) from by omega]; exact hy (j + 1) v (by simpa using hj))
        have hxi : xs[i]? = some u := hx 0 u rfl
        have hyi : ys[i]? = some v := hy 0 v rfl
        simp only [Op.eqFields, h1, h2, ne_eq, not_false_eq_true, if_true, Sem.run_bind, part_plain h3.plain hxi, part_plain h3.plain hyi, Result.andThen_ok, g1 d f.type h3, Sem.run_ite]
        cases b1
        · simp
        · simp [ih]
theorem part_agg {ty : TypeId} {gs : Array Field} {cs : Array Value} {off n : Nat} (hu : P.underlying ty = some (.struct gs)) (hn : sizeP P ty = some n) (w : World) : (part ty cs off).run P w = .ok (.agg (cs.extract off (off + n))) w := by
  have ha : aggP P ty = some true := by unfold aggP; rw [hu]
  simp only [part, Sem.run_bind, run_isAgg ha, Result.andThen_ok, if_true, run_sizeP hn, Sem.run_pure]
theorem eqC_nest : ∀ {fs : List Field} {i : Nat} {ks : List Nat} {us vs : List Value} {b : Bool} {d : Nat} {xs ys : Array Value}, kinds2 P fs i = some ks → EqC P w ks us vs b →
    (∀ j v, us[j]? = some v → xs[i + j]? = some v) → (∀ j v, vs[j]? = some v → ys[i + j]? = some v) → (Op.eqFields (d + 2) xs ys fs).run P w = .ok b w
  | [], i, ks, us, vs, b, d, xs, ys, hk, he, _, _ => by
    simp only [kinds2, Option.some.injEq] at hk; subst hk
    cases us <;> cases vs <;> simp [EqC] at he
    subst he; rfl
  | f :: fs, i, ks, us, vs, b, d, xs, ys, hk, he, hx, hy => by
    have plain : ∀ k, kindOK P k f.type → f.offset = i → f.name ≠ "_" → (kinds2 P fs (i + 1)).map (k :: ·) = some ks → (Op.eqFields (d + 2) xs ys (f :: fs)).run P w = .ok b w := by
      intro k h3 h1 h2 hm
      cases h4 : kinds2 P fs (i + 1) with
      | none => rw [h4] at hm; cases hm
      | some ks' =>
        rw [h4] at hm
        simp only [Option.map_some, Option.some.injEq] at hm; subst hm
        cases us with
        | nil => simp [EqC] at he
        | cons u us =>
          cases vs with
          | nil => simp [EqC] at he
          | cons v vs =>
            obtain ⟨b1, b2, rfl, g1, g2⟩ := he
            have ih := eqC_nest (d := d) h4 g2 (fun j v hj => by rw [show i + 1 + j = i + (j + 1) from by omega]; exact hx (j + 1) v (by simpa using hj)) (fun j v hj => by rw [show i + 1 + j = i + (j + 1) from by omega]; exact hy (j + 1) v (by simpa using hj))
            have hxi : xs[i]? = some u := hx 0 u rfl
            have hyi : ys[i]? = some v := hy 0 v rfl
            simp only [Op.eqFields, h1, h2, ne_eq, not_false_eq_true, if_true, Sem.run_bind, part_plain h3.plain hxi, part_plain h3.plain hyi, Result.andThen_ok, g1 (d + 1) f.type h3, Sem.run_ite]
            cases b1
            · simp
            · simp [ih]
    simp only [kinds2] at hk
    split at hk
    · rename_i hc
      split at hk
      · rename_i q hu; exact plain 0 (.inl ⟨rfl, q, hu⟩) hc.1 hc.2 hk
      · rename_i hu; exact plain 1 (.inr (.inl ⟨rfl, hu⟩)) hc.1 hc.2 hk
      · rename_i hu; exact plain 2 (.inr (.inr ⟨rfl, hu⟩)) hc.1 hc.2 hk
      · rename_i gs hu
        split at hk
        · rename_i k1 hk1
          split at hk
          · rename_i hs
            cases h4 : kinds2 P fs (i + k1.length) with
            | none => rw [h4] at hk; cases hk
            | some ks' =>
              rw [h4] at hk
              simp only [Option.map_some, Option.some.injEq] at hk; subst hk
              have hl := he.len
              rw [List.length_append] at hl
              obtain ⟨b1, b2, rfl, g1, g2⟩ := he.split
              have hgx : ∀ (zs : List Value) (as : Array Value), k1.length ≤ zs.length → (∀ j v, zs[j]? = some v → as[i + j]? = some v) → ∀ j v, (zs.take k1.length)[j]? = some v → (as.extract i (i + k1.length))[0 + j]? = some v := by
                intro zs as hzl hz j v hj
                have hj1 : j < k1.length := by
                  have := (List.getElem?_eq_some_iff.1 hj).1
                  simp at this; omega
                rw [List.getElem?_take_of_lt hj1] at hj
                have h5 := hz j v hj
                rw [Nat.zero_add, Array.getElem?_extract]
                have : i + j < as.size := (Array.getElem?_eq_some_iff.1 h5).1
                rw [if_pos (by omega)]; exact h5
              have ih := eqC_nest (d := d) h4 g2 (fun j v hj => by rw [List.getElem?_drop] at hj; rw [Nat.add_assoc]; exact hx _ v hj) (fun j v hj => by rw [List.getElem?_drop] at hj; rw [Nat.add_assoc]; exact hy _ v hj)
              have in1 := eqC_flat (d := d) hk1 g1 (hgx us xs (by omega) hx) (hgx vs ys (by omega) hy)
              have hfo : P.fieldsOf f.type = gs := by unfold Program.fieldsOf; rw [hu]
              have heq : (Op.equalIn (d + 2) f.type (.agg (xs.extract i (i + k1.length))) (.agg (ys.extract i (i + k1.length)))).run P w = .ok b1 w := by
                rw [run_equalIn_struct w (d + 1) f.type _ _ (by rw [hfo]; exact hu) hs.1, hfo]; exact in1
              simp only [Op.eqFields, hc.1, hc.2, ne_eq, not_false_eq_true, if_true, Sem.run_bind, part_agg hu hs.2, Result.andThen_ok, heq, Sem.run_ite]
              cases b1
              · simp
              · simp [ih]
          · cases hk
        · cases hk
      · cases hk
    · cases hk
end
theorem eqCells_C (w : World) : ∀ (ks : List Nat) (as bs : List AV) (us vs : List Value) (r : Bool), eqCells ks as bs = some r → as.length = us.length → bs.length = vs.length →
    (∀ (j : Nat) (c : AV) (v : Value), as[j]? = some c → us[j]? = some v → VR w (okc C ρ w) ρ U c v) → (∀ (j : Nat) (c : AV) (v : Value), bs[j]? = some c → vs[j]? = some v → VR w (okc C ρ w) ρ U c v) → EqC P w ks us vs r
  | ks, as, bs, us, vs, r, hr, hla, hlb, ha, hb => by
    have step : ∀ (k : Nat) (ks' : List Nat) (a b : Value) (as' bs' : List AV) (q r' : Bool), ks = k :: ks' → as = .v a :: as' → bs = .v b :: bs' → eqCells ks' as' bs' = some r' → r = (q && r') → (∀ d ty, kindOK P k ty → (Op.equalIn (d + 1) ty a b).run P w = .ok q w) → EqC P w ks us vs r := by
      intro k ks' a b as' bs' q r' hks hea heb hre hrr heq
      subst hks; subst hea; subst heb; subst hrr
      cases us with
      | nil => simp at hla
      | cons u us =>
        cases vs with
        | nil => simp at hlb
        | cons v vs =>
          have hu := (ha 0 (.v a) u rfl rfl).v_inv
          have hv := (hb 0 (.v b) v rfl rfl).v_inv
          subst hu; subst hv
          exact ⟨q, r', rfl, heq, eqCells_C w ks' as' bs' us vs r' hre (by simpa using hla) (by simpa using hlb) (fun j c v h1 h2 => ha (j + 1) c v (by simpa using h1) (by simpa using h2)) (fun j c v h1 h2 => hb (j + 1) c v (by simpa using h1) (by simpa using h2))⟩
    unfold eqCells at hr
    split at hr
    · simp only [Option.some.injEq] at hr; subst hr
      cases us with
      | cons u us => simp at hla
      | nil => cases vs with
        | cons v vs => simp at hlb
        | nil => rfl
    · rename_i k a l k' b l'
      split at hr
      · rename_i hkk
        subst hkk
        split at hr
        · rename_i r' hr'
          simp only [Option.some.injEq] at hr
          refine step 0 _ _ _ _ _ _ r' rfl rfl rfl hr' hr.symm fun d ty hk => ?_
          rcases hk with ⟨_, q, hu⟩ | ⟨h0, _⟩ | ⟨h0, _⟩
          · have := run_equalIn_int (P := P) w d ty k q a b hu
            exact this
          · omega
          · omega
        · cases hr
      · cases hr
    · rename_i a l b l'
      split at hr
      · rename_i r' hr'
        simp only [Option.some.injEq] at hr
        refine step 1 _ _ _ _ _ _ r' rfl rfl rfl hr' hr.symm fun d ty hk => ?_
        rcases hk with ⟨h0, _⟩ | ⟨_, hu⟩ | ⟨h0, _⟩
        · omega
        · exact run_equalIn_string w d ty a b hu
        · omega
      · cases hr
    · rename_i a l b l'
      split at hr
      · rename_i r' hr'
        simp only [Option.some.injEq] at hr
        refine step 2 _ _ _ _ _ _ r' rfl rfl rfl hr' hr.symm fun d ty hk => ?_
        rcases hk with ⟨h0, _⟩ | ⟨h0, _⟩ | ⟨_, hu⟩
        · omega
        · omega
        · exact run_equalIn_bool' w d ty a b hu
      · cases hr
    · cases hr
termination_by ks => ks.length
decreasing_by all_goals (simp_all)
theorem s_eqs (hr : HR C ρ U h w) (ht : Tm C ρ U w t a) {neg : Bool} {ty ty' : TypeId} {fs : Array Field} {ks : List Nat} {x y : Operand} (h1 : P.underlying ty = some (.struct fs)) (hk : kinds2 P fs.toList 0 = some ks)
    (hs : P.stoodInHeld ty = false) (hg : P.eqGuardType P.depth ty = false)
    (ho : o.op = .binOp (if neg then .neq else .eql) ty x y ty') (he : eff nm t h (.eqs neg ks x y) = some e) :
    Run C ρ U h w nm ((execOp a.eval o).run P w) e := by
  simp only [eff] at he
  split at he
  · rename_i as bs hx hy
    obtain ⟨us, hu, hvu⟩ := (ev_ok ht hx).agg_inv
    obtain ⟨vs, hv, hvv⟩ := (ev_ok ht hy).agg_inv
    split at he
    · rename_i r hr'
      simp only [E.ok, Option.some.injEq] at he; subst he
      have hfo : P.fieldsOf ty = fs := by unfold Program.fieldsOf; rw [h1]
      have hC := eqCells_C (P := P) (C := C) (ρ := ρ) (U := U) w ks as bs us.toList vs.toList r hr' (by have := hvu.1; simpa using this) (by have := hvv.1; simpa using this) (fun j c v h1 h2 => hvu.2 j c v h1 (by simpa using h2)) (fun j c v h1 h2 => hvv.2 j c v h1 (by simpa using h2))
      have hrun := eqC_nest (d := 9997) (xs := us) (ys := vs) hk hC (fun j v hj => by simpa using hj) (fun j v hj => by simpa using hj)
      have heq : (Op.equalIn 10000 ty (.agg us) (.agg vs)).run P w = .ok r w := by
        rw [run_equalIn_struct w 9999 ty us vs (by rw [hfo]; exact h1) hs, hfo]
        exact hrun
      cases neg
      · simp only [Bool.false_eq_true, if_false] at ho ⊢
        simp only [execOp, ho, hu, hv, Sem.run_bind, run_eqGuard_agg w _ ty x y us vs hg, Result.andThen_ok, run_eql_struct, heq, Sem.run_pure]
        exact .same hr (.p (.v _)) True
      · simp only [if_true] at ho ⊢
        simp only [execOp, ho, hu, hv, Sem.run_bind, run_eqGuard_agg w _ ty x y us vs hg, Result.andThen_ok, run_neq_struct, heq, Sem.run_pure]
        exact .same hr (.p (.v _)) True
    · cases he
  · cases he
theorem new_row_run (hr : HR C ρ U h w) (hn : ¬ U nm) {el sz n : Nat} {xs : List (List AV)} {cells : Array Value} {r : Result Next} (hsz : cells.size = xs.length * sz) (hn' : n = xs.length)
    (hel : ∀ (k : Nat) (x : List AV), xs[k]? = some x → x.length = sz)
    (hrel : ∀ (k : Nat) (x : List AV) (j : Nat) (c : AV), xs[k]? = some x → x[j]? = some c → ∃ q, cells[k * sz + j]? = some q ∧ q.oneCell' = true ∧ VP w (okc C ρ w) c q)
    (hrun : r = .ok (.value (.slice (some ⟨w.heap.size, 0, none⟩) n n)) (w.alloc (.cells cells el))) (p : Prop) : Run C ρ U h w nm r ⟨p, .own nm sz 0 n, [(nm, .row el sz xs)]⟩ := by
  subst hn'
  have hm := moved_alloc (C := C) (ρ := ρ) (U := U) (h := h) hr hn (.cells cells el) (l := .at w.heap.size 0 (xs.length * sz)) (.inr ⟨0, _, rfl⟩)
  refine Run.moved hr hm (fun ⟨cs, hcs⟩ => absurd (hr.hp _ _ hcs).1 hn) ?_ (.inl hrun) (.own (.inr rfl) ?_) (.inr rfl) p
  · refine .inr ⟨w.heap.size, 0, xs.length * sz, cells, rfl, heap_alloc_new w _, by omega, Nat.le_refl _, hel, fun k x j c hk hj => ?_⟩
    obtain ⟨q, h1, h2, h3⟩ := hrel k x j c hk hj
    exact ⟨q, by rw [Nat.zero_add]; exact h1, h2, hm.vp h3⟩
  · simp only [up, if_true]
    exact ⟨⟨_, _, _, rfl⟩, .inr ⟨xs.length, Nat.le_refl _, by simp, by simp⟩⟩
theorem zeros_row {ok : Nat → Prop} {zs : List Value} {sz n : Nat} {cells : Array Value} (hz : zs.length = sz) (hone : zs.all Value.oneCell' = true)
    (hc : ∀ k j, k < n → j < sz → cells[k * sz + j]? = zs[j]?) : ∀ (k : Nat) (x : List AV) (j : Nat) (c : AV), (List.replicate n (zs.map AV.v))[k]? = some x → x[j]? = some c → ∃ q, cells[k * sz + j]? = some q ∧ q.oneCell' = true ∧ VP w ok c q := by
  intro k x j c hk hj
  rw [List.getElem?_replicate] at hk
  split at hk
  · rename_i hkn
    cases hk
    rw [List.getElem?_map, Option.map_eq_some_iff] at hj
    obtain ⟨q, hq, rfl⟩ := hj
    have hjl : j < sz := by rw [← hz]; exact (List.getElem?_eq_some_iff.1 hq).1
    exact ⟨q, by rw [hc k j hkn hjl]; exact hq, List.all_eq_true.1 hone q (List.mem_iff_getElem?.2 ⟨j, hq⟩), .v q⟩
  · cases hk
theorem madeCells_get {z : Array Value} {sz n k j : Nat} (hz : z.size = sz) (hk : k < n) (hj : j < sz) : (madeCells z (n * sz))[k * sz + j]? = z.toList[j]? := by
  have hlt : k * sz + j < n * sz := by
    have : (k + 1) * sz ≤ n * sz := Nat.mul_le_mul_right _ hk
    rw [Nat.add_mul, Nat.one_mul] at this
    omega
  have hjz : j < z.size := by omega
  have h1 := (divmod_lt (k := k) hj).2
  simp only [madeCells, Array.getElem?_map]
  rw [Array.getElem?_range, if_pos hlt]
  simp only [Option.map_some, hz, h1, Array.getElem?_toList]
  rw [Array.getElem?_eq_getElem hjz, getElem!_pos z j hjz]
theorem s_mkslice (hr : HR C ρ U h w) (ht : Tm C ρ U w t a) (hn : ¬ U nm) {ty el sz by_ : Nat} {zs : List Value} {l c : Operand} (hE : El P ty el sz by_ zs) (hone : zs.all Value.oneCell' = true)
    (ho : o.op = .makeSlice ty l c) (he : eff nm t h (.mkslice el sz by_ zs l c) = some e) (hp : e.pre) : Run C ρ U h w nm ((execOp a.eval o).run P w) e := by
  obtain ⟨i, z, hi, hiz, his, hib, hzc, hzl⟩ := hE.info
  simp only [eff] at he
  split at he
  · rename_i k n k' m hl hc
    have e1 := (ev_ok ht hl).v_inv
    have e2 := (ev_ok ht hc).v_inv
    simp only [Option.some.injEq] at he; subst he
    obtain ⟨h0, rfl, hb, h63⟩ := hp
    have hrun := run_make (P := P) w ty el i z hE.und hi hiz k k' n n h0 (Int.le_refl _) (by rw [hib, Int.mul_comm]; omega) h63
    refine new_row_run (cells := madeCells z.cells (n.toNat * i.size)) hr hn (by rw [size_madeCells, his]; simp) (by simp) (fun k x hx => ?_) (zeros_row hE.zl hone (fun k j hk hj => ?_)) ?_ _
    · rw [List.getElem?_replicate] at hx
      split at hx
      · cases hx; simp [hE.zl]
      · cases hx
    · rw [his, madeCells_get hzc hk hj, hzl]
    · simp only [execOp, ho, e1, e2, Sem.run_bind, hrun, Result.andThen_ok, Sem.run_pure]
  · cases he
theorem s_mkmap (hr : HR C ρ U h w) (hn : ¬ U nm) {ty : TypeId} (ho : o.op = .makeMap ty none) (he : eff nm t h .mkmap = some e) : Run C ρ U h w nm ((execOp a.eval o).run P w) e := by
  simp only [eff, Option.some.injEq] at he; subst he
  have hm : Moved C ρ U h w nm (.at w.heap.size 0 0) (w.alloc (.map #[] 0)) := moved_alloc hr hn _ (.inr ⟨0, 0, rfl⟩)
  refine Run.moved (ob := .map []) (v := .map (some w.heap.size)) hr hm (fun ⟨cs, hcs⟩ => absurd (hr.hp _ _ hcs).1 hn) ⟨w.heap.size, #[], 0, rfl, heap_alloc_new w _, rfl, by simp⟩ (.inl ?_) (.mp _ (.inr rfl) fun g o n hl => ?_) (.inr rfl) True
  · simp [execOp, ho, Instr.makeMap]
  · simp only [up, if_true] at hl
    cases hl; rfl
theorem findNow_ok {Rl : AV → Value → Prop} (kk : IntKind) (q : IntKind) (n : Int) : ∀ (es : List (Value × AV)) (ents : List MapEntry) (i0 : Nat) (r : Option AV), lookM es q n = some r → es.length = ents.length →
    (∀ (i : Nat) (k : Value) (c : AV) (m : MapEntry), es[i]? = some (k, c) → ents[i]? = some m → m.key = k ∧ Rl c m.val) →
    (r = none ∧ Instr.findNow (.int kk) (.int q n) ents i0 = some none) ∨ (∃ x i m, r = some x ∧ es[i]? = some (.int q n, x) ∧ ents[i]? = some m ∧ m.key = .int q n ∧ Rl x m.val ∧ Instr.findNow (.int kk) (.int q n) ents i0 = some (some (i0 + i, m.val)))
  | [], [], i0, r, hl, _, _ => by simp only [lookM, Option.some.injEq] at hl; subst hl; exact .inl ⟨rfl, rfl⟩
  | (k, x) :: es, m :: ents, i0, r, hl, hlen, hrel => by
    obtain ⟨hk, hx⟩ := hrel 0 k x m rfl rfl
    cases k with
    | int q' n' =>
      simp only [lookM] at hl
      split at hl
      · rename_i hq
        subst hq
        split at hl
        · rename_i hnn
          subst hnn
          simp only [Option.some.injEq] at hl; subst hl
          refine .inr ⟨x, 0, m, rfl, rfl, rfl, hk, hx, ?_⟩
          simp [Instr.findNow, hk, Instr.sameNow]
        · rename_i hnn
          have hb : (n == n') = false := by simp [hnn]
          rcases findNow_ok kk q n es ents (i0 + 1) r hl (by simpa using hlen) (fun i k c m h1 h2 => hrel (i + 1) k c m (by simpa using h1) (by simpa using h2)) with ⟨h1, h2⟩ | ⟨y, i, m', h1, h2, h3, h4, h5, h6⟩
          · exact .inl ⟨h1, by simp [Instr.findNow, hk, Instr.sameNow, hb, h2]⟩
          · refine .inr ⟨y, i + 1, m', h1, by simpa using h2, by simpa using h3, h4, h5, ?_⟩
            simp [Instr.findNow, hk, Instr.sameNow, hb, h6]
            omega
      · cases hl
    | _ => simp [lookM] at hl
  | [], _ :: _, _, _, _, hlen, _ => by simp at hlen
  | _ :: _, [], _, _, _, hlen, _ => by simp at hlen
theorem map_at (hr : HR C ρ U h w) {b : Nat} {es : List (Value × AV)} (hb : get h b = some (.map es)) : ∃ g ents clock, ρ b = .at g 0 0 ∧ w.heap[g]? = some (.map ents clock) ∧ ents.size = es.length ∧
      ∀ (i : Nat) (k : Value) (c : AV) (m : MapEntry), es[i]? = some (k, c) → ents[i]? = some m → m.key = k ∧ VR w (okc C ρ w) ρ U c m.val := (hr.hp b _ hb).2
theorem run_checkKeyN {kt : TypeId} {q : IntKind} {kk : IntKind} {n : Int} (hk : P.underlying kt = some (.int kk)) (b : Bool) (N : Nat) (w : World) : (Instr.checkKey b (N + 1) kt (.int q n)).run P w = .ok () w := by
  simp [Instr.checkKey, run_underlying hk]
theorem run_checkKey {kt : TypeId} {q : IntKind} {kk : IntKind} {n : Int} (hk : P.underlying kt = some (.int kk)) (b : Bool) (w : World) : (Instr.checkKey b 10000 kt (.int q n)).run P w = .ok () w := run_checkKeyN hk b 9999 w
theorem run_getObj {g : Nat} {ents : Array MapEntry} {clock : Nat} (hg : w.heap[g]? = some (.map ents clock)) : (getObj g).run P w = .ok (.map ents clock) w := by
  simp [getObj, Sem.run, hg]
theorem s_look (hr : HR C ρ U h w) (ht : Tm C ρ U w t a) {ty kt et : TypeId} {kk : IntKind} {z : Value} {m k : Operand} (h1 : P.underlying ty = some (.map kt et)) (h2 : P.underlying kt = some (.int kk))
    (hza : ∃ i, P.info? et = some i ∧ i.zero = some z) (ho : o.op = .lookup ty m k false) (he : eff nm t h (.look z m k) = some e) : Run C ρ U h w nm ((execOp a.eval o).run P w) e := by
  simp only [eff] at he
  split at he
  · rename_i b q n hm hk
    obtain ⟨hu, r, hmr, hmg⟩ := (ev_ok ht hm).mp_inv
    have hkv := (ev_ok ht hk).v_inv
    split at he
    · rename_i es hb
      split at he
      · rename_i r' hl
        simp only [E.ok, Option.some.injEq] at he; subst he
        obtain ⟨g, ents, clock, hloc, hg, hsz, hrel⟩ := map_at hr hb
        have := hmg g 0 0 hloc
        subst this
        have hF := findNow_ok (Rl := VR w (okc C ρ w) ρ U) kk q n es ents.toList 0 r' hl (by simpa using hsz.symm) (fun i k c m h1 h2 => hrel i k c m h1 (by simpa using h2))
        obtain ⟨i, hi, hiz⟩ := hza
        have pre : ∀ res, Instr.findNow (.int kk) (.int q n) ents.toList 0 = some res → (execOp a.eval o).run P w = .ok (.value (match res with | some (_, v) => v | none => z)) w := by
          intro res hres
          simp only [execOp, ho, hmr, hkv, Instr.lookup, Sem.run_bind, run_underlying h1, Result.andThen_ok, run_getObj hg, Sem.run_pure, run_checkKey h2, Instr.findKey, run_underlying h2, hres]
          cases res with
          | none => simp [zeroValue, typeInfo, hi, hiz]
          | some p => simp
        rcases hF with ⟨rfl, hf⟩ | ⟨x, i', m', rfl, _, _, _, hvp, hf⟩
        · rw [pre _ hf]
          exact .same hr (.p (.v _)) True
        · rw [pre _ hf]
          exact .same hr hvp True
      · cases he
    · cases he
  · cases he
theorem s_look2 (hr : HR C ρ U h w) (ht : Tm C ρ U w t a) {ty kt et : TypeId} {kk : IntKind} {z : Value} {m k : Operand} (h1 : P.underlying ty = some (.map kt et)) (h2 : P.underlying kt = some (.int kk))
    (hza : ∃ i, P.info? et = some i ∧ i.zero = some z) (ho : o.op = .lookup ty m k true) (he : eff nm t h (.look2 z m k) = some e) : Run C ρ U h w nm ((execOp a.eval o).run P w) e := by
  simp only [eff] at he
  split at he
  · rename_i b q n hm hk
    obtain ⟨hu, r, hmr, hmg⟩ := (ev_ok ht hm).mp_inv
    have hkv := (ev_ok ht hk).v_inv
    split at he
    · rename_i es hb
      split at he
      · rename_i r' hl
        simp only [E.ok, Option.some.injEq] at he; subst he
        obtain ⟨g, ents, clock, hloc, hg, hsz, hrel⟩ := map_at hr hb
        have := hmg g 0 0 hloc
        subst this
        have hF := findNow_ok (Rl := VR w (okc C ρ w) ρ U) kk q n es ents.toList 0 r' hl (by simpa using hsz.symm) (fun i k c m h1 h2 => hrel i k c m h1 (by simpa using h2))
        obtain ⟨i, hi, hiz⟩ := hza
        have pre : ∀ res, Instr.findNow (.int kk) (.int q n) ents.toList 0 = some res → (execOp a.eval o).run P w = .ok (.value (.tuple #[(match res with | some (_, v) => v | none => z), .bool res.isSome])) w := by
          intro res hres
          simp only [execOp, ho, hmr, hkv, Instr.lookup, Sem.run_bind, run_underlying h1, Result.andThen_ok, run_getObj hg, Sem.run_pure, run_checkKey h2, Instr.findKey, run_underlying h2, hres]
          cases res with
          | none => simp [zeroValue, typeInfo, hi, hiz]
          | some p => simp
        rcases hF with ⟨rfl, hf⟩ | ⟨x, i', m', rfl, _, _, _, hvp, hf⟩
        · rw [pre _ hf]
          exact .same hr (.tup rfl fun i c u h1 h2 => by
            match i with
            | 0 => simp at h1 h2; subst h1 h2; exact .p (.v _)
            | 1 => simp at h1 h2; subst h1 h2; exact .p (.v _)
            | i + 2 => simp at h1) True
        · rw [pre _ hf]
          exact .same hr (.tup rfl fun i c u h1 h2 => by
            match i with
            | 0 => simp at h1 h2; subst h1 h2; exact hvp
            | 1 => simp at h1 h2; subst h1 h2; exact .p (.v _)
            | i + 2 => simp at h1) True
      · cases he
    · cases he
  · cases he
theorem putM_ok {Rl : AV → Value → Prop} (kk q : IntKind) (n : Int) (y : AV) (v : Value) (hy : Rl y v) : ∀ (es : List (Value × AV)) (ents : List MapEntry) (i0 : Nat) (es' : List (Value × AV)), putM es q n y = some es' → es.length = ents.length →
    (∀ (i : Nat) (k : Value) (c : AV) (m : MapEntry), es[i]? = some (k, c) → ents[i]? = some m → m.key = k ∧ Rl c m.val) →
    (es' = es ++ [(.int q n, y)] ∧ Instr.findNow (.int kk) (.int q n) ents i0 = some none) ∨
    (∃ i m, i < es.length ∧ es' = es.set i (.int q n, y) ∧ ents[i]? = some m ∧ m.key = .int q n ∧ Instr.findNow (.int kk) (.int q n) ents i0 = some (some (i0 + i, m.val)))
  | [], [], i0, es', hl, _, _ => by simp only [putM, Option.some.injEq] at hl; subst hl; exact .inl ⟨rfl, rfl⟩
  | (k, x) :: es, m :: ents, i0, es', hl, hlen, hrel => by
    obtain ⟨hk, hx⟩ := hrel 0 k x m rfl rfl
    cases k with
    | int q' n' =>
      simp only [putM] at hl
      split at hl
      · rename_i hq
        subst hq
        split at hl
        · rename_i hnn
          subst hnn
          simp only [Option.some.injEq] at hl; subst hl
          refine .inr ⟨0, m, by simp, rfl, rfl, hk, ?_⟩
          simp [Instr.findNow, hk, Instr.sameNow]
        · rename_i hnn
          split at hl
          · rename_i r hr
            simp only [Option.some.injEq] at hl; subst hl
            have hb : (n == n') = false := by simp [hnn]
            rcases putM_ok kk q n y v hy es ents (i0 + 1) r hr (by simpa using hlen) (fun i k c m h1 h2 => hrel (i + 1) k c m (by simpa using h1) (by simpa using h2)) with ⟨h1, h2⟩ | ⟨i, m', h1, h2, h3, h4, h5⟩
            · exact .inl ⟨by rw [h1]; rfl, by simp [Instr.findNow, hk, Instr.sameNow, hb, h2]⟩
            · refine .inr ⟨i + 1, m', by simp; omega, by rw [h2]; rfl, by simpa using h3, h4, ?_⟩
              simp [Instr.findNow, hk, Instr.sameNow, hb, h5]
              omega
          · cases hl
      · cases hl
    | _ => simp [putM] at hl
  | [], _ :: _, _, _, _, hlen, _ => by simp at hlen
  | _ :: _, [], _, _, _, hlen, _ => by simp at hlen
theorem s_mput (hr : HR C ρ U h w) (ht : Tm C ρ U w t a) {ty kt et : TypeId} {kk : IntKind} {m k x : Operand} (h1 : P.underlying ty = some (.map kt et)) (h2 : P.underlying kt = some (.int kk))
    (ho : o.op = .mapUpdate ty m k x) (he : eff nm t h (.mput m k x) = some e) : Run C ρ U h w nm ((execOp a.eval o).run P w) e := by
  simp only [eff] at he
  split at he
  · rename_i b q n y hm hk hx
    obtain ⟨hu, r, hmr, hmg⟩ := (ev_ok ht hm).mp_inv
    have hkv := (ev_ok ht hk).v_inv
    have hxv := ev_ok ht hx
    split at he
    · rename_i es hb
      · split at he
        · rename_i es' hput
          simp only [Option.some.injEq] at he; subst he
          obtain ⟨g, ents, clock, hloc, hg, hsz, hrel⟩ := map_at hr hb
          have := hmg g 0 0 hloc
          subst this
          have hvp := hxv
          have hF := putM_ok (Rl := VR w (okc C ρ w) ρ U) kk q n y (a.eval x) hvp es ents.toList 0 es' hput (by simpa using hsz.symm) (fun i k c m h1 h2 => hrel i k c m h1 (by simpa using h2))
          have hglt : g < w.heap.size := (hr.ownl g ⟨b, 0, 0, hloc⟩).2
          have set : ∀ ents' clock', (setObj g (.map ents' clock')).run P w = .ok () { w with heap := w.heap.setIfInBounds g (.map ents' clock') } := by
            intro ents' clock'
            simp [setObj, Sem.run, hg]
          have moved : ∀ ents' clock', Moved C ρ U h w b (.at g 0 0) { w with heap := w.heap.setIfInBounds g (.map ents' clock') } := by
            intro ents' clock'
            refine ⟨rfl, rfl, rfl, by simp, fun k' hk' hkb => ?_, .inl ⟨hu, hloc.symm⟩⟩
            have hne : ¬ g = k' := fun e => hkb 0 0 (by rw [← e]; exact hloc)
            simp [Array.getElem?_setIfInBounds, hne]
          rcases hF with ⟨rfl, hf⟩ | ⟨i, m', hi, rfl, hm', hmk, hf⟩
          · have hm1 := moved (ents.push { key := .int q n, val := a.eval x, born := clock }) (clock + 1)
            refine Run.moved (ob := .map (es ++ [(.int q n, y)])) hr hm1 (fun ⟨cs, hcs⟩ => by rw [hb] at hcs; cases hcs) ⟨g, ents.push { key := .int q n, val := a.eval x, born := clock }, clock + 1, rfl, by simp [hglt], by simp [hsz], fun i k c m hi hm => ?_⟩ (.inr ⟨rfl, ?_⟩) (.p (.v _)) (.inl hu) True
            · rw [Array.getElem?_push] at hm
              rw [List.getElem?_append] at hi
              split at hm
              · rename_i heq
                rw [if_neg (by omega)] at hi
                have h0 : i - es.length = 0 := by omega
                rw [h0] at hi
                simp at hi hm
                obtain ⟨rfl, rfl⟩ := hi
                subst hm
                exact ⟨rfl, hm1.vr hvp⟩
              · rename_i hne
                have hlt := (Array.getElem?_eq_some_iff.1 hm).1
                rw [if_pos (by omega)] at hi
                exact ⟨(hrel i k c m hi hm).1, hm1.vr (hrel i k c m hi hm).2⟩
            · simp only [execOp, ho, hmr, hkv, Instr.mapUpdate, Sem.run_bind, run_underlying h1, Result.andThen_ok, run_getObj hg, run_checkKey h2, Instr.findKey, run_underlying h2, hf, Sem.run_pure, set]
          · have hm1 := moved (ents.modify i fun e => { e with key := .int q n, val := a.eval x }) clock
            have hm'' : ents[i]? = some m' := by simpa using hm'
            refine Run.moved (ob := .map (es.set i (.int q n, y))) hr hm1 (fun ⟨cs, hcs⟩ => by rw [hb] at hcs; cases hcs) ⟨g, ents.modify i fun e => { e with key := .int q n, val := a.eval x }, clock, rfl, by simp [hglt], by simp [hsz], fun j k c m hj hm => ?_⟩ (.inr ⟨rfl, ?_⟩) (.p (.v _)) (.inl hu) True
            · rw [Array.getElem?_modify] at hm
              by_cases hji : i = j
              · subst hji
                rw [if_pos rfl, hm''] at hm
                rw [List.getElem?_set_self hi] at hj
                simp at hj hm
                obtain ⟨rfl, rfl⟩ := hj
                subst hm
                exact ⟨rfl, hm1.vr hvp⟩
              · rw [if_neg hji] at hm
                rw [List.getElem?_set_ne hji] at hj
                exact ⟨(hrel j k c m hj hm).1, hm1.vr (hrel j k c m hj hm).2⟩
            · have hkeep : (Instr.keyThatStays (.int q n) (.int q n)).run P w = .ok (.int q n) w := by
                simp [Instr.keyThatStays, Instr.sameBits]
              simp only [execOp, ho, hmr, hkv, Instr.mapUpdate, Sem.run_bind, run_underlying h1, Result.andThen_ok, run_getObj hg, run_checkKey h2, Instr.findKey, run_underlying h2, hf, Sem.run_pure, Nat.zero_add, hm'', Option.map_some, Option.getD_some, hmk, hkeep, set]
        · cases he
    · cases he
  · cases he
theorem s_insert (hr : HR C ρ U h w) (ht : Tm C ρ U w t a) {ty kt et : TypeId} {kk : IntKind} {m k x : Operand} (h1 : P.underlying ty = some (.map kt et)) (h2 : P.underlying kt = some (.int kk))
    (ho : o.op = .insert ty m k x) (he : eff nm t h (.mput m k x) = some e) : Run C ρ U h w nm ((execOp a.eval o).run P w) e := by
  simp only [eff] at he
  split at he
  · rename_i b q n y hm hk hx
    obtain ⟨hu, r, hmr, hmg⟩ := (ev_ok ht hm).mp_inv
    have hkv := (ev_ok ht hk).v_inv
    have hxv := ev_ok ht hx
    split at he
    · rename_i es hb
      · split at he
        · rename_i es' hput
          simp only [Option.some.injEq] at he; subst he
          obtain ⟨g, ents, clock, hloc, hg, hsz, hrel⟩ := map_at hr hb
          have := hmg g 0 0 hloc
          subst this
          have hvp := hxv
          have hF := putM_ok (Rl := VR w (okc C ρ w) ρ U) kk q n y (a.eval x) hvp es ents.toList 0 es' hput (by simpa using hsz.symm) (fun i k c m h1 h2 => hrel i k c m h1 (by simpa using h2))
          have hglt : g < w.heap.size := (hr.ownl g ⟨b, 0, 0, hloc⟩).2
          have set : ∀ ents' clock', (setObj g (.map ents' clock')).run P w = .ok () { w with heap := w.heap.setIfInBounds g (.map ents' clock') } := by
            intro ents' clock'
            simp [setObj, Sem.run, hg]
          have moved : ∀ ents' clock', Moved C ρ U h w b (.at g 0 0) { w with heap := w.heap.setIfInBounds g (.map ents' clock') } := by
            intro ents' clock'
            refine ⟨rfl, rfl, rfl, by simp, fun k' hk' hkb => ?_, .inl ⟨hu, hloc.symm⟩⟩
            have hne : ¬ g = k' := fun e => hkb 0 0 (by rw [← e]; exact hloc)
            simp [Array.getElem?_setIfInBounds, hne]
          rcases hF with ⟨rfl, hf⟩ | ⟨i, m', hi, rfl, hm', hmk, hf⟩
          · have hm1 := moved (ents.push { key := .int q n, val := a.eval x, born := clock }) (clock + 1)
            refine Run.moved (ob := .map (es ++ [(.int q n, y)])) hr hm1 (fun ⟨cs, hcs⟩ => by rw [hb] at hcs; cases hcs) ⟨g, ents.push { key := .int q n, val := a.eval x, born := clock }, clock + 1, rfl, by simp [hglt], by simp [hsz], fun i k c m hi hm => ?_⟩ (.inr ⟨rfl, ?_⟩) (.p (.v _)) (.inl hu) True
            · rw [Array.getElem?_push] at hm
              rw [List.getElem?_append] at hi
              split at hm
              · rename_i heq
                rw [if_neg (by omega)] at hi
                have h0 : i - es.length = 0 := by omega
                rw [h0] at hi
                simp at hi hm
                obtain ⟨rfl, rfl⟩ := hi
                subst hm
                exact ⟨rfl, hm1.vr hvp⟩
              · rename_i hne
                have hlt := (Array.getElem?_eq_some_iff.1 hm).1
                rw [if_pos (by omega)] at hi
                exact ⟨(hrel i k c m hi hm).1, hm1.vr (hrel i k c m hi hm).2⟩
            · simp only [execOp, ho, hmr, hkv, Instr.mapUpdate, Sem.run_bind, run_underlying h1, Result.andThen_ok, run_getObj hg, run_checkKey h2, Instr.findKey, run_underlying h2, hf, Sem.run_pure, set]
          · have hm1 := moved (ents.modify i fun e => { e with key := .int q n, val := a.eval x }) clock
            have hm'' : ents[i]? = some m' := by simpa using hm'
            refine Run.moved (ob := .map (es.set i (.int q n, y))) hr hm1 (fun ⟨cs, hcs⟩ => by rw [hb] at hcs; cases hcs) ⟨g, ents.modify i fun e => { e with key := .int q n, val := a.eval x }, clock, rfl, by simp [hglt], by simp [hsz], fun j k c m hj hm => ?_⟩ (.inr ⟨rfl, ?_⟩) (.p (.v _)) (.inl hu) True
            · rw [Array.getElem?_modify] at hm
              by_cases hji : i = j
              · subst hji
                rw [if_pos rfl, hm''] at hm
                rw [List.getElem?_set_self hi] at hj
                simp at hj hm
                obtain ⟨rfl, rfl⟩ := hj
                subst hm
                exact ⟨rfl, hm1.vr hvp⟩
              · rw [if_neg hji] at hm
                rw [List.getElem?_set_ne hji] at hj
                exact ⟨(hrel j k c m hj hm).1, hm1.vr (hrel j k c m hj hm).2⟩
            · have hkeep : (Instr.keyThatStays (.int q n) (.int q n)).run P w = .ok (.int q n) w := by
                simp [Instr.keyThatStays, Instr.sameBits]
              simp only [execOp, ho, hmr, hkv, Instr.mapUpdate, Sem.run_bind, run_underlying h1, Result.andThen_ok, run_getObj hg, run_checkKey h2, Instr.findKey, run_underlying h2, hf, Sem.run_pure, Nat.zero_add, hm'', Option.map_some, Option.getD_some, hmk, hkeep, set]
        · cases he
    · cases he
  · cases he
end
end Go.Eng
namespace Go.Eng
open Go
section
variable {P : Program} {C : Ctx} {ρ : Nat → Loc} {U : Nat → Prop} {h : List (Nat × Ob)} {w : World} {nm : Nat} {t : List (Nat × AV)} {a : Act} {o : Oper} {e : E}
structure RowRel (w : World) (ok : Nat → Prop) (sz : Nat) (xs : List (List AV)) (cells : Array Value) : Prop where
  size : cells.size = xs.length * sz
  el : ∀ (k : Nat) (x : List AV), xs[k]? = some x → x.length = sz
  rel : ∀ (k : Nat) (x : List AV) (j : Nat) (c : AV), xs[k]? = some x → x[j]? = some c → ∃ q, cells[k * sz + j]? = some q ∧ q.oneCell' = true ∧ VP w ok c q
theorem RowRel.set {ok : Nat → Prop} {sz : Nat} {xs : List (List AV)} {cells vs : Array Value} {i : Nat} {y : List AV} (hR : RowRel w ok sz xs cells) (hi : i < xs.length) (hl : y.length = sz) (hv : vs.size = sz)
    (hone : ∀ (j : Nat) (v : Value), vs[j]? = some v → v.oneCell' = true) (hvp : ∀ (j : Nat) (c : AV) (v : Value), y[j]? = some c → vs[j]? = some v → VP w ok c v) : RowRel w ok sz (xs.set i y) (pasted cells (i * sz) vs) := by
  have hfit : i * sz + vs.size ≤ cells.size := by
    rw [hv, hR.size]
    have : (i + 1) * sz ≤ xs.length * sz := Nat.mul_le_mul_right _ hi
    rw [Nat.add_mul, Nat.one_mul] at this
    exact this
  refine ⟨by rw [pasted_size _ _ _ hfit, hR.size]; simp, fun k x hk => ?_, fun k x j c hk hj => ?_⟩
  · by_cases hik : i = k
    · subst hik
      rw [List.getElem?_set_self hi] at hk
      cases hk; exact hl
    · rw [List.getElem?_set_ne hik] at hk
      exact hR.el k x hk
  · rw [pasted_get _ _ _ hfit]
    by_cases hik : i = k
    · subst hik
      rw [List.getElem?_set_self hi] at hk
      cases hk
      have hjl : j < sz := by rw [← hl]; exact (List.getElem?_eq_some_iff.1 hj).1
      have hjv : j < vs.size := by omega
      rw [if_neg (by omega), if_pos (by omega), show i * sz + j - i * sz = j from by omega]
      have hg := Array.getElem?_eq_getElem hjv
      exact ⟨_, hg, hone j _ hg, hvp j c _ hj hg⟩
    · rw [List.getElem?_set_ne hik] at hk
      have hjl : j < sz := by rw [← hR.el k x hk]; exact (List.getElem?_eq_some_iff.1 hj).1
      obtain ⟨q, hq, h1, h2⟩ := hR.rel k x j c hk hj
      refine ⟨q, ?_, h1, h2⟩
      rcases Nat.lt_or_gt_of_ne hik with hlt | hgt
      · have : (i + 1) * sz ≤ k * sz := Nat.mul_le_mul_right _ hlt
        rw [Nat.add_mul, Nat.one_mul] at this
        rw [if_neg (by omega), if_neg (by omega)]; exact hq
      · have : (k + 1) * sz ≤ i * sz := Nat.mul_le_mul_right _ hgt
        rw [Nat.add_mul, Nat.one_mul] at this
        rw [if_pos (by omega)]; exact hq
theorem fillR_ok (ht : Tm C ρ U w t a) {sz : Nat} : ∀ (parts : List (Nat × Operand)) (ps : List (Nat × List AV)) (xs xs' : List (List AV)) (cells : Array Value), partsR t sz parts = some ps → fillR xs ps = some xs' → RowRel w (okc C ρ w) sz xs cells →
    ∃ cells', Instr.fill (fun i => some (i * sz, sz)) cells (parts.map fun p => (p.1, a.eval p.2)) = some cells' ∧ RowRel w (okc C ρ w) sz xs' cells' ∧ xs'.length = xs.length
  | [], ps, xs, xs', cells, hp, hf, hR => by
    simp only [partsR, Option.some.injEq] at hp; subst hp
    simp only [fillR, Option.some.injEq] at hf; subst hf
    exact ⟨cells, rfl, hR, rfl⟩
  | (i, x) :: parts, ps, xs, xs', cells, hp, hf, hR => by
    simp only [partsR] at hp
    split at hp
    · rename_i y l hy hl
      split at hp
      · rename_i ys hys
        split at hp
        · rename_i hc
          obtain ⟨hlen, hpure⟩ := hc
          simp only [Option.some.injEq] at hp; subst hp
          simp only [fillR] at hf
          split at hf
          · rename_i hi
            obtain ⟨hvl, hone, _⟩ := cellsA_ok (ev_ok ht hy) hys
            have hvs : (a.eval x).cells.size = sz := by rw [← hvl.1]; exact hlen
            have hR' := hR.set hi hlen hvs hone (fun j c v h1 h2 => VP.of_pure_aux (hvl.2 j c v h1 h2) (pureL_get _ hpure j c h1))
            obtain ⟨cells', hc, hR'', hl'⟩ := fillR_ok ht parts l (xs.set i ys) xs' _ hl hf hR'
            refine ⟨cells', ?_, hR'', by rw [hl']; simp⟩
            have hfit : i * sz + (a.eval x).cells.size ≤ cells.size := by
              rw [hvs, hR.size]
              have : (i + 1) * sz ≤ xs.length * sz := Nat.mul_le_mul_right _ hi
              rw [Nat.add_mul, Nat.one_mul] at this
              exact this
            simp only [List.map_cons, Instr.fill]
            rw [if_neg (by simp; omega), fill_one _ _ _ hfit]
            exact hc
          · cases hf
        · cases hp
      · cases hp
    · cases hp
theorem addU_self {U : Nat → Prop} {b : Nat} (h : U b) : addU U b = U := by
  funext k
  refine propext ⟨fun hk => ?_, .inl⟩
  rcases hk with hk | rfl
  · exact hk
  · exact h
theorem killAll : ∀ (bs : List Nat) {ρ : Nat → Loc} {h : List (Nat × Ob)}, HR C ρ U h w → (∀ b ∈ bs, ∃ o, get h b = some o ∧ ∀ cs, o ≠ .box cs) →
    ∃ ρ', HR C ρ' U (killK bs ++ h) w ∧ (∀ k, ρ' k = if k ∈ bs then .dead else ρ k) ∧ (∀ g, okc C ρ w g → okc C ρ' w g) ∧ Later U ρ ρ'
  | [], ρ, h, hr, _ => ⟨ρ, hr, fun k => by simp, fun _ h => h, fun _ _ => .inl rfl⟩
  | b :: bs, ρ, h, hr, hb => by
    obtain ⟨ρ1, hr1, e1, ok1, lt1⟩ := killAll bs hr fun c hc => hb c (List.mem_cons_of_mem _ hc)
    obtain ⟨o, hg, hnb⟩ := hb b (List.mem_cons_self ..)
    have hub : U b := (hr.hp b o hg).1
    have hnb' : ∀ cs, get (killK bs ++ h) b ≠ some (.box cs) := by
      have key : ∀ (l : List Nat) (cs : List AV), get (killK l ++ h) b ≠ some (.box cs) := by
        intro l cs
        induction l with
        | nil => simp only [killK, List.map_nil, List.nil_append, hg]; intro e; cases e; exact hnb cs rfl
        | cons a l ih =>
          simp only [killK, List.map_cons, List.cons_append, get]
          split
          · intro e; cases e
          · exact ih
      exact key bs
    have hm : Moved C ρ1 U (killK bs ++ h) w b .dead w := ⟨rfl, rfl, rfl, Nat.le_refl _, fun _ _ _ => rfl, .inr (.inl ⟨hub, rfl, hnb'⟩)⟩
    have h2 := hm.hr hr1 (ob := .dead) (fun ⟨cs, h⟩ => absurd h (hnb' cs)) rfl
    rw [addU_self hub] at h2
    refine ⟨up ρ1 b .dead, h2, fun k => ?_, fun g hk => hm.okc (ok1 g hk), fun k hk => ?_⟩
    · unfold up
      by_cases e : k = b
      · simp [e]
      · simp only [e, if_false, e1 k, List.mem_cons, false_or]
    · unfold up
      by_cases e : k = b
      · simp only [e, if_true]; exact .inr trivial
      · simp only [e, if_false]; exact lt1 k hk
theorem frC_ok (hr : HR C ρ U h w) {ρ' : Nat → Loc} {bs : List Nat} (he : ∀ k, ρ' k = if k ∈ bs then .dead else ρ k) (ho : ∀ g, okc C ρ w g → okc C ρ' w g) {c c' : AV} {u : Value} (hc : VR w (okc C ρ w) ρ U c u) (hf : frC h c = some c') (hs : ∀ b ∈ ownC c, b ∈ bs) :
    VP w (okc C ρ' w) c' u := by
  unfold frC at hf
  split at hf
  · rename_i b sz off len
    unfold frO at hf
    split at hf
    · rename_i e sz' xs hg
      split at hf
      · rename_i hcd
        obtain ⟨rfl, hle⟩ := hcd
        cases hf
        obtain ⟨hub, ⟨a, n, cp, rfl⟩, hat⟩ := hc.own_inv
        obtain ⟨_, hob⟩ := hr.hp b _ hg
        cases hl : ρ b with
        | dead =>
          rw [hl] at hob
          rcases hob with ⟨h1, _⟩ | ⟨_, _, _, _, h1, _⟩ <;> cases h1
        | nil =>
          rw [hl] at hat hob
          obtain ⟨rfl, e1⟩ := hat
          rw [e1]
          simp only [List.take_zero]
          exact .nilsl
        | «at» g o m =>
          rw [hl] at hat hob
          rcases hob with ⟨h1, _⟩ | ⟨g', o', n', cells, h1, h2, h3, h4, h5, h6⟩
          · cases h1
          · cases h1
            rcases hat with ⟨rfl, _, e1 | ⟨a', e1⟩⟩ | ⟨cap, h7, h8, e1⟩
            · rw [e1]; simp only [List.take_zero]; exact .nilsl
            · rw [e1]; simp only [List.take_zero]
              exact .sl a' 0 0 (fun _ _ => undef) rfl (Nat.le_refl _) (fun h => by simp at h) (fun k e h => by simp at h) (fun k e j c h => by simp at h) (fun k e j c h => by simp at h)
            · rw [e1]
              have hlen : ((xs.drop off).take len).length = len := by simp; omega
              have hget : ∀ (k : Nat) (x : List AV), ((xs.drop off).take len)[k]? = some x → xs[off + k]? = some x := by
                intro k x hk
                rw [List.getElem?_take] at hk
                split at hk
                · rwa [List.getElem?_drop] at hk
                · cases hk
              have hokg : okc C ρ' w g := by
                obtain ⟨q1, q2⟩ := hr.ownl g ⟨b, o, m, hl⟩
                refine ⟨.inr ?_, q2, ?_⟩
                · rcases q1 with q1 | q1
                  · obtain ⟨b', o', n', hb'⟩ := C.extl g q1
                    obtain ⟨r1, r2, cs, r3⟩ := hr.fix b' _ hb'
                    have := hr.inj b b' g o m o' n' hl r1
                    subst this
                    rw [hg] at r3; cases r3
                  · exact q1
                · rintro ⟨k, o', n', hk⟩
                  rw [he k] at hk
                  split at hk
                  · cases hk
                  · rename_i hnk
                    have := hr.inj b k g o m o' n' hl hk
                    subst this
                    exact hnk (hs b (by simp [ownC]))
              refine .sl _ _ _ (fun k j => (cells[o + ((off + k) * sz + j)]?).getD undef) hlen.symm h7 (fun _ => ⟨rfl, hokg⟩) (fun k x hk => h5 _ x (hget k x hk)) (fun k x j c hk hj => ?_) (fun k x j c hk hj => ?_)
              · obtain ⟨u, hu, h9, _⟩ := h6 _ x j c (hget k x hk) hj
                simp only [hu, Option.getD_some]
                refine ⟨?_, h9⟩
                have e2 : o + off * sz + (k * sz + j) = o + ((off + k) * sz + j) := by rw [Nat.add_mul]; omega
                simp [World.cell?, h2, e2, hu]
              · obtain ⟨u, hu, _, h9⟩ := h6 _ x j c (hget k x hk) hj
                simp only [hu, Option.getD_some]
                exact h9.mono ho (fun _ _ => rfl)
      · cases hf
    · cases hf
  · split at hf
    · rename_i hp
      cases hf
      exact (VP.of_pure_aux hc hp).mono ho (fun _ _ => rfl)
    · cases hf
theorem frL_get : ∀ (ys zs : List AV), frL h ys = some zs → zs.length = ys.length ∧ ∀ (i : Nat) (z : AV), zs[i]? = some z → ∃ y, ys[i]? = some y ∧ frC h y = some z
  | [], zs, hf => by simp only [frL, Option.some.injEq] at hf; subst hf; exact ⟨rfl, fun i z h => by simp at h⟩
  | c :: cs, zs, hf => by
    simp only [frL] at hf
    split at hf
    · rename_i x l h1 h2
      cases hf
      obtain ⟨a1, a2⟩ := frL_get cs l h2
      refine ⟨by simp [a1], fun i z hz => ?_⟩
      cases i with
      | zero => simp at hz; subst hz; exact ⟨c, rfl, h1⟩
      | succ i => simpa using a2 i z (by simpa using hz)
    · cases hf
theorem ownL_get : ∀ (ys : List AV) (i : Nat) (y : AV), ys[i]? = some y → ∀ b ∈ ownC y, b ∈ ownL ys
  | [], i, y, h => by simp at h
  | c :: cs, i, y, h => by
    intro b hb
    simp only [ownL, List.mem_append]
    cases i with
    | zero => simp at h; subst h; exact .inl hb
    | succ i => exact .inr (ownL_get cs i y (by simpa using h) b hb)
theorem partsK_rows {sz : Nat} : ∀ (parts : List (Nat × Operand)) (ps : List (Nat × List AV)) (bs : List Nat), partsK t h sz parts = some (ps, bs) → ∀ b ∈ bs, ∃ o, get h b = some o ∧ ∀ cs, o ≠ .box cs
  | [], ps, bs, hp => by simp only [partsK, Option.some.injEq, Prod.mk.injEq] at hp; obtain ⟨rfl, rfl⟩ := hp; simp
  | (i, x) :: rest, ps, bs, hp => by
    simp only [partsK] at hp
    split at hp
    · rename_i y l bs' hy hl
      split at hp
      · rename_i ys hys
        split at hp
        · rename_i zs hzs
          split at hp
          · cases hp
            intro b hb
            rcases List.mem_append.1 hb with hb | hb
            · have key : ∀ (ys zs : List AV), frL h ys = some zs → ∀ b ∈ ownL ys, ∃ o, get h b = some o ∧ ∀ cs, o ≠ .box cs := by
                intro ys
                induction ys with
                | nil => intro zs _ b hb; simp [ownL] at hb
                | cons c cs ih =>
                  intro zs hf b hb
                  simp only [frL] at hf
                  split at hf
                  · rename_i x l h1 h2
                    simp only [ownL, List.mem_append] at hb
                    rcases hb with hb | hb
                    · cases c <;> simp [ownC] at hb
                      subst hb
                      simp only [frC] at h1
                      unfold frO at h1
                      split at h1
                      · rename_i hg; exact ⟨_, hg, fun cs e => by cases e⟩
                      · cases h1
                    · exact ih l h2 b hb
                  · cases hf
              exact key ys zs hzs b hb
            · exact partsK_rows rest l bs' hl b hb
          · cases hp
        · cases hp
      · cases hp
    · cases hp
theorem fillK_ok (hr : HR C ρ U h w) (ht : Tm C ρ U w t a) {ρ' : Nat → Loc} {B : List Nat} (he : ∀ k, ρ' k = if k ∈ B then .dead else ρ k) (ho : ∀ g, okc C ρ w g → okc C ρ' w g) {sz : Nat} : ∀ (parts : List (Nat × Operand)) (ps : List (Nat × List AV)) (bs : List Nat) (xs xs' : List (List AV)) (cells : Array Value), partsK t h sz parts = some (ps, bs) → (∀ b ∈ bs, b ∈ B) → fillR xs ps = some xs' → RowRel w (okc C ρ' w) sz xs cells →
    ∃ cells', Instr.fill (fun i => some (i * sz, sz)) cells (parts.map fun p => (p.1, a.eval p.2)) = some cells' ∧ RowRel w (okc C ρ' w) sz xs' cells' ∧ xs'.length = xs.length
  | [], ps, bs, xs, xs', cells, hp, _, hf, hR => by
    simp only [partsK, Option.some.injEq, Prod.mk.injEq] at hp; obtain ⟨rfl, rfl⟩ := hp
    simp only [fillR, Option.some.injEq] at hf; subst hf
    exact ⟨cells, rfl, hR, rfl⟩
  | (i, x) :: parts, ps, bs, xs, xs', cells, hp, hB, hf, hR => by
    simp only [partsK] at hp
    split at hp
    · rename_i y l bs' hy hl
      split at hp
      · rename_i ys hys
        split at hp
        · rename_i zs hzs
          split at hp
          · rename_i hlen
            cases hp
            simp only [fillR] at hf
            split at hf
            · rename_i hi
              obtain ⟨hvl, hone, _⟩ := cellsA_ok (ev_ok ht hy) hys
              obtain ⟨z1, z2⟩ := frL_get ys zs hzs
              have hvs : (a.eval x).cells.size = sz := by rw [← hvl.1]; exact hlen
              have hR' := hR.set hi (z1.trans hlen) hvs hone (fun j c v h1 h2 => by
                obtain ⟨c0, h3, h4⟩ := z2 j c h1
                exact frC_ok hr he ho (hvl.2 j c0 v h3 h2) h4 fun b hb => hB b (List.mem_append.2 (.inl (ownL_get ys j c0 h3 b hb))))
              obtain ⟨cells', hc, hR'', hl'⟩ := fillK_ok hr ht he ho parts l bs' (xs.set i zs) xs' _ hl (fun b hb => hB b (List.mem_append.2 (.inr hb))) hf hR'
              refine ⟨cells', ?_, hR'', by rw [hl']; simp⟩
              have hfit : i * sz + (a.eval x).cells.size ≤ cells.size := by
                rw [hvs, hR.size]
                have : (i + 1) * sz ≤ xs.length * sz := Nat.mul_le_mul_right _ hi
                rw [Nat.add_mul, Nat.one_mul] at this
                exact this
              simp only [List.map_cons, Instr.fill]
              rw [if_neg (by simp; omega), fill_one _ _ _ hfit]
              exact hc
            · cases hf
          · cases hp
        · cases hp
      · cases hp
    · cases hp
theorem Run.before {ρ' : Nat → Loc} {bs : List Nat} {r : Result Next} {x : AV} {o : Nat × Ob} {p : Prop} (hr : HR C ρ' U (killK bs ++ h) w) (ho : ∀ g, okc C ρ w g → okc C ρ' w g) (hl : Later U ρ ρ') (hR : Run C ρ' U (killK bs ++ h) w nm r ⟨p, x, [o]⟩) :
    Run C ρ U h w nm r ⟨p, x, o :: killK bs⟩ := by
  obtain ⟨v, w', ρ1, U1, h1, h2, h3, h4, h5⟩ := hR
  exact ⟨v, w', ρ1, U1, h1, h2, h3, fun x u hx => h4 x u (hx.mono ho (fun _ _ => rfl) (fun _ h => h) hl), h5⟩
theorem s_bslice (hr : HR C ρ U h w) (ht : Tm C ρ U w t a) (hn : ¬ U nm) {ty el sz len : Nat} {zs : List Value} {parts : Array (Nat × Operand)} (hu : P.underlying ty = some (.slice el)) (hz : zerosOf P el = some zs) (hs : sizeP P el = some sz)
    (hzl : zs.length = sz) (hpos : 0 < sz) (hmax : len * sz ≤ 16777216) (hone : zs.all Value.oneCell' = true)
    (ho : o.op = .buildSlice ty len parts) (he : eff nm t h (.bslice el sz zs len parts.toList) = some e) : Run C ρ U h w nm ((execOp a.eval o).run P w) e := by
  obtain ⟨i, z, hi, hiz, hzz⟩ := zerosOf_info hz
  have hzc : z.cells.size = sz := by rw [← Array.length_toList, hzz]; exact hzl
  simp only [eff] at he
  split at he
  · rename_i ps hps
    split at he
    · rename_i xs hxs
      simp only [Option.some.injEq] at he; subst he
      have base : RowRel w (okc C ρ w) sz (List.replicate len (zs.map AV.v)) (madeCells (if len * sz = 0 then #[] else z.cells) (len * sz)) := by
        refine ⟨by rw [size_madeCells]; simp, fun k x hk => ?_, ?_⟩
        · rw [List.getElem?_replicate] at hk
          split at hk
          · cases hk; simp [hzl]
          · cases hk
        · refine zeros_row hzl hone (fun k j hk hj => ?_)
          have : ¬ len * sz = 0 := by
            have := Nat.mul_pos (show 0 < len by omega) hpos
            omega
          rw [if_neg this, madeCells_get hzc hk hj, hzz]
      obtain ⟨cells', hc, hR, hl⟩ := fillR_ok ht parts.toList ps _ xs _ hps hxs base
      have hlen : len = xs.length := by rw [hl]; simp
      refine new_row_run (cells := cells') hr hn hR.size hlen hR.el hR.rel ?_ True
      have e0 : (parts.map fun (x : Nat × Operand) => (x.1, a.eval x.2)).toList = parts.toList.map fun p => (p.1, a.eval p.2) := by simp
      have hmx : ¬ (len * sz > 2 ^ 24) := by
        have : (2 : Nat) ^ 24 = 16777216 := by decide
        omega
      unfold madeCells at hc
      by_cases h0 : len * sz = 0
      · simp only [h0, if_true] at hc
        simp only [execOp, ho, Instr.buildSlice, Sem.run_bind, run_underlying hu, Result.andThen_ok, run_sizeP hs, h0]
        simp only [show ¬ ((0 : Nat) > 2 ^ 24) from by omega, if_false, if_true, Sem.run_bind, Sem.run_pure, Result.andThen_ok]
        rw [e0, hc]
        simp [newRow]
      · simp only [h0, if_false] at hc
        simp only [execOp, ho, Instr.buildSlice, Sem.run_bind, run_underlying hu, Result.andThen_ok, run_sizeP hs, hmx, h0, if_false, zeroValue, typeInfo, run_program, hi, hiz, Sem.run_pure]
        rw [e0, hc]
        simp [newRow]
    · cases he
  · split at he
    · rename_i ps bs hps
      split at he
      · rename_i xs hxs
        simp only [Option.some.injEq] at he; subst he
        obtain ⟨ρ', hr', he', ho', hl'⟩ := killAll bs hr (partsK_rows _ _ _ hps)
        have base : RowRel w (okc C ρ' w) sz (List.replicate len (zs.map AV.v)) (madeCells (if len * sz = 0 then #[] else z.cells) (len * sz)) := by
          refine ⟨by rw [size_madeCells]; simp, fun k x hk => ?_, ?_⟩
          · rw [List.getElem?_replicate] at hk
            split at hk
            · cases hk; simp [hzl]
            · cases hk
          · refine zeros_row hzl hone (fun k j hk hj => ?_)
            have : ¬ len * sz = 0 := by
              have := Nat.mul_pos (show 0 < len by omega) hpos
              omega
            rw [if_neg this, madeCells_get hzc hk hj, hzz]
        obtain ⟨cells', hc, hR, hl⟩ := fillK_ok hr ht he' ho' parts.toList ps bs _ xs _ hps (fun _ h => h) hxs base
        have hlen : len = xs.length := by rw [hl]; simp
        refine Run.before hr' ho' hl' ?_
        refine new_row_run (cells := cells') hr' hn hR.size hlen hR.el hR.rel ?_ True
        have e0 : (parts.map fun (x : Nat × Operand) => (x.1, a.eval x.2)).toList = parts.toList.map fun p => (p.1, a.eval p.2) := by simp
        have hmx : ¬ (len * sz > 2 ^ 24) := by
          have : (2 : Nat) ^ 24 = 16777216 := by decide
          omega
        unfold madeCells at hc
        by_cases h0 : len * sz = 0
        · simp only [h0, if_true] at hc
          simp only [execOp, ho, Instr.buildSlice, Sem.run_bind, run_underlying hu, Result.andThen_ok, run_sizeP hs, h0]
          simp only [show ¬ ((0 : Nat) > 2 ^ 24) from by omega, if_false, if_true, Sem.run_bind, Sem.run_pure, Result.andThen_ok]
          rw [e0, hc]
          simp [newRow]
        · simp only [h0, if_false] at hc
          simp only [execOp, ho, Instr.buildSlice, Sem.run_bind, run_underlying hu, Result.andThen_ok, run_sizeP hs, hmx, h0, if_false, zeroValue, typeInfo, run_program, hi, hiz, Sem.run_pure]
          rw [e0, hc]
          simp [newRow]
      · cases he
    · cases he
theorem bound_ok (ht : Tm C ρ U w t a) {d : Nat} {x : Option Operand} {n : Int} (hb : bound t d x = some n) : (x = none ∧ n = d) ∨ ∃ y k, x = some y ∧ a.eval y = .int k n := by
  cases x with
  | none => simp only [bound, Option.some.injEq] at hb; exact .inl ⟨rfl, hb.symm⟩
  | some y =>
    simp only [bound] at hb
    split at hb
    · rename_i k m hy
      simp only [Option.some.injEq] at hb; subst hb
      exact .inr ⟨y, k, rfl, (ev_ok ht hy).v_inv⟩
    · cases hb
theorem run_bounds (ht : Tm C ρ U w t a) (isS : Bool) {len cap d d' : Nat} {lo hi : Option Operand} {l r : Int} (hl : bound t d lo = some l) (hr : bound t d' hi = some r) (hd : d = 0) (hd' : d' = len)
    (h0 : 0 ≤ l) (hlr : l ≤ r) (hrc : r ≤ cap) (w' : World) : (Instr.sliceBounds isS len cap (lo.map a.eval) (hi.map a.eval) none).run P w' = .ok (l.toNat, r.toNat, cap) w' := by
  subst hd'
  rcases bound_ok ht hr with ⟨rfl, e1⟩ | ⟨y, k, rfl, hy⟩ <;> rcases bound_ok ht hl with ⟨rfl, e2⟩ | ⟨z, k', rfl, hz⟩
  · have a1 : r.toNat = d' := by omega
    have a2 : l.toNat = 0 := by omega
    simp [Instr.sliceBounds, a1, a2]
  · have a1 : r.toNat = d' := by omega
    have c1 : 0 ≤ l ∧ l ≤ (d' : Int) := by omega
    simp [Instr.sliceBounds, a1, hz, Instr.sliceBound, asIntOf, c1]
  · have a2 : l.toNat = 0 := by omega
    have c1 : 0 ≤ r ∧ r ≤ (cap : Int) := by omega
    simp [Instr.sliceBounds, a2, hy, Instr.sliceBound, asIntOf, c1]
  · have c1 : 0 ≤ r ∧ r ≤ (cap : Int) := by omega
    have c2 : 0 ≤ l ∧ l ≤ (r.toNat : Int) := by omega
    have c3 : 0 ≤ l ∧ l ≤ max r 0 := by omega
    simp [Instr.sliceBounds, hz, hy, Instr.sliceBound, asIntOf, c1, c3]
theorem s_slice (hr : HR C ρ U h w) (ht : Tm C ρ U w t a) (hn : ¬ U nm) {ty el sz : Nat} {x : Operand} {lo hi mx : Option Operand} (hu : P.underlying ty = some (.slice el)) (hs : sizeP P el = some sz)
    (ho : o.op = .slice ty x lo hi mx) (he : eff nm t h (.slice sz x lo hi mx) = some e) (hp : e.pre) : Run C ρ U h w nm ((execOp a.eval o).run P w) e := by
  have run : ∀ (ad : Option Addr) (len cap d d' : Nat) (l r : Int), mx = none → a.eval x = .slice ad len cap → bound t d lo = some l → bound t d' hi = some r → d = 0 → d' = len → 0 ≤ l → l ≤ r → r ≤ cap →
      (execOp a.eval o).run P w = .ok (.value (.slice (if cap = l.toNat then ad else ad.map (·.add (l.toNat * sz))) (r.toNat - l.toNat) (cap - l.toNat))) w := by
    intro ad len cap d d' l r hmx hx hl hr hd hd' h0 hlr hrc
    subst hmx
    simp only [execOp, ho, hx, Instr.sliceAt, Instr.slice, Sem.run_bind, run_underlying hu, Result.andThen_ok, Option.map_none, run_bounds ht true hl hr hd hd' h0 hlr hrc, run_sizeP hs, Sem.run_pure]
  simp only [eff] at he
  split at he
  · rename_i sz' xs l hx hl
    split at he
    · rename_i r hr'
      split at he
      · rename_i hss
        subst hss
        simp only [Option.some.injEq] at he; subst he
        obtain ⟨h0, hlr, hrl⟩ := hp
        have hvp := (ev_ok ht hx).sl_inv
        cases hq : a.eval x with
        | slice ad n cap =>
          rw [hq] at hvp
          cases hvp with
          | nilsl =>
            simp only [List.length_nil] at hr' hrl
            rw [run none 0 0 0 0 l r rfl hq hl hr' rfl rfl h0 hlr (by simpa using hrl)]
            simp only [List.take_nil, List.drop_nil]
            have e1 : r.toNat - l.toNat = 0 := by simp at hrl; omega
            rw [e1]
            simp only [Option.map_none, ite_self, Nat.zero_sub]
            exact .same hr (.p .nilsl) _
          | sl A n cap f hn hcap hok hel hc hv =>
            subst hn
            have hrl' : r.toNat ≤ xs.length := by omega
            rw [run (some A) xs.length cap 0 xs.length l r rfl hq hl hr' rfl rfl h0 hlr (by omega)]
            have hlen : ((xs.take r.toNat).drop l.toNat).length = r.toNat - l.toNat := by simp; omega
            by_cases hcl : cap = l.toNat
            · have e0 : (xs.take r.toNat).drop l.toNat = [] := List.eq_nil_of_length_eq_zero (by rw [hlen]; omega)
              rw [if_pos hcl, e0]
              refine .same hr (.p (.sl A _ _ (fun _ _ => undef) (by simp; omega) (by omega) (by simp) (by simp) (by simp) (by simp))) _
            · rw [if_neg hcl]
              simp only [Option.map_some]
              by_cases hpos : 0 < xs.length
              · obtain ⟨hsp, hok'⟩ := hok hpos
                rw [add_spot _ _ hsp]
                have sub : ∀ (k : Nat) (x : List AV), ((xs.take r.toNat).drop l.toNat)[k]? = some x → xs[l.toNat + k]? = some x := by
                  intro k x hk
                  rw [List.getElem?_drop, List.getElem?_take] at hk
                  split at hk
                  · exact hk
                  · cases hk
                refine .same hr (.p (.sl ⟨A.block, A.off + l.toNat * sz, none⟩ (r.toNat - l.toNat) (cap - l.toNat) (fun k j => f (l.toNat + k) j) hlen.symm (by omega) (fun _ => ⟨rfl, hok'⟩) (fun k x hk => hel _ x (sub k x hk)) (fun k x j c hk hj => ?_) (fun k x j c hk hj => hv _ x j c (sub k x hk) hj))) _
                have := hc _ x j c (sub k x hk) hj
                rw [Nat.add_mul] at this
                simp only
                rw [show A.off + l.toNat * sz + (k * sz + j) = A.off + (l.toNat * sz + k * sz + j) from by omega]
                exact this
              · have e0 : (xs.take r.toNat).drop l.toNat = [] := List.eq_nil_of_length_eq_zero (by rw [hlen]; omega)
                rw [e0]
                refine .same hr (.p (.sl _ _ _ (fun _ _ => undef) (by simp; omega) (by omega) (by simp) (by simp) (by simp) (by simp))) _
        | _ => rw [hq] at hvp; cases hvp
      · cases he
    · cases he
  · rename_i b sz' off len l hx hl
    split at he
    · rename_i ety s2 xs r hb hr'
      split at he
      · rename_i hss
        subst hss
        simp only [Option.some.injEq] at he; subst he
        obtain ⟨h0, hlr, hrl⟩ := hp
        obtain ⟨hub, _, hown⟩ := (ev_ok ht hx).own_inv
        have hrow := (hr.hp b _ hb).2
        cases hloc : ρ b with
        | dead => rcases hrow with ⟨e', _⟩ | ⟨_, _, _, _, e', _⟩ <;> rw [hloc] at e' <;> cases e'
        | nil =>
          rw [hloc] at hown
          obtain ⟨rfl, hv⟩ := hown
          have hr0 : r ≤ ((0 : Nat) : Int) := by
            rcases hrl with hrl | ⟨_, _, hrl⟩
            · exact hrl
            · rcases hrow with ⟨_, rfl⟩ | ⟨_, _, _, _, e', _⟩
              · simp at hrl; omega
              · rw [hloc] at e'; cases e'
          rw [run none 0 0 0 0 l r rfl hv hl hr' rfl rfl h0 hlr hr0]
          have e1 : r.toNat - l.toNat = 0 := by omega
          rw [e1]
          simp only [Option.map_none, ite_self, Nat.zero_sub]
          refine .same hr (.own hub ⟨⟨_, _, _, rfl⟩, ?_⟩) _
          rw [hloc]; exact ⟨rfl, rfl⟩
        | «at» g og n =>
          rw [hloc] at hown
          have hxn : 0 < sz ∧ sz = s2 ∧ off + r.toNat ≤ xs.length → (off + r.toNat) * sz ≤ n := by
            rintro ⟨_, rfl, h3⟩
            rcases hrow with ⟨e', _⟩ | ⟨g', o', n', cells, e', _, _, hxn, _⟩
            · rw [hloc] at e'; cases e'
            · rw [hloc] at e'; cases e'
              exact Nat.le_trans (Nat.mul_le_mul_right _ h3) hxn
          rcases hown with ⟨rfl, hno, hv⟩ | ⟨cap, hlc, hroom, hv⟩
          · have hr0 : r ≤ ((0 : Nat) : Int) := by
              rcases hrl with hrl | hrl
              · exact hrl
              · have h4 := hxn hrl
                have h5 : (off + r.toNat) * sz ≤ off * sz := Nat.le_trans h4 hno
                have := Nat.le_of_mul_le_mul_right h5 hrl.1
                omega
            have e1 : r.toNat - l.toNat = 0 := by omega
            have e2 : l.toNat = 0 := by omega
            rcases hv with hv | ⟨A, hv⟩
            · rw [run none 0 0 0 0 l r rfl hv hl hr' rfl rfl h0 hlr hr0]
              rw [e1, e2]
              simp only [Option.map_none, ite_self, Nat.zero_sub]
              refine .same hr (.own hub ⟨⟨_, _, _, rfl⟩, ?_⟩) _
              rw [hloc]; exact .inl ⟨rfl, hno, .inl rfl⟩
            · rw [run (some A) 0 0 0 0 l r rfl hv hl hr' rfl rfl h0 hlr hr0]
              rw [e1, e2]
              simp only [if_true, Nat.sub_zero]
              refine .same hr (.own hub ⟨⟨_, _, _, rfl⟩, ?_⟩) _
              rw [hloc]; exact .inl ⟨rfl, hno, .inr ⟨A, rfl⟩⟩
          · have hrc : r ≤ (cap : Int) := by
              rcases hrl with hrl | hrl
              · omega
              · have h4 := hxn hrl
                rw [← hroom] at h4
                have := Nat.le_of_mul_le_mul_right h4 hrl.1
                omega
            rw [run _ len cap 0 len l r rfl hv hl hr' rfl rfl h0 hlr hrc]
            by_cases hcl : cap = l.toNat
            · rw [if_pos hcl]
              have e1 : r.toNat - l.toNat = 0 := by omega
              have e2 : cap - l.toNat = 0 := by omega
              rw [e1, e2]
              refine .same hr (.own hub ⟨⟨_, _, _, rfl⟩, ?_⟩) _
              rw [hloc]; exact .inl ⟨rfl, by rw [← hroom, hcl]; exact Nat.le_refl _, .inr ⟨_, rfl⟩⟩
            · rw [if_neg hcl]
              simp only [Option.map_some, add_plain]
              refine .same hr (.own hub ⟨⟨_, _, _, rfl⟩, ?_⟩) _
              rw [hloc]
              refine .inr ⟨cap - l.toNat, by omega, ?_, by rw [Nat.add_mul, Nat.add_assoc]⟩
              rw [show off + l.toNat + (cap - l.toNat) = off + cap from by omega]
              exact hroom
      · cases he
    · cases he
  · rename_i l hx hl
    split at he
    · rename_i r hr'
      simp only [Option.some.injEq] at he; subst he
      obtain ⟨rfl, rfl⟩ := hp
      have hv := (ev_ok ht hx).v_inv
      rw [run none 0 0 0 0 0 0 rfl hv hl hr' rfl rfl (Int.le_refl _) (Int.le_refl _) (by simp)]
      exact .same hr (.p (.v _)) _
    · cases he
  · rename_i m sz' xs l hx hl
    split at he
    · rename_i y
      split at he
      · rename_i k1 r k2 c hy hm
        split at he
        · rename_i hss
          subst hss
          simp only [Option.some.injEq] at he; subst he
          obtain ⟨rfl, rfl, rfl⟩ := hp
          have hvp := (ev_ok ht hx).sl_inv
          have hyv := (ev_ok ht hy).v_inv
          have hmv := (ev_ok ht hm).v_inv
          have hadd : ∀ ad : Option Addr, ad.map (fun q => q.add (0 * sz)) = ad := by
            intro ad
            cases ad <;> simp [Addr.add]
          have run3 : ∀ ad cap, a.eval x = .slice ad xs.length cap → xs.length ≤ cap → (execOp a.eval o).run P w = .ok (.value (.slice ad xs.length xs.length)) w := by
            intro ad cap hq hle
            have c1 : (0 : Int) ≤ (xs.length : Int) ∧ (xs.length : Int) ≤ (cap : Int) := by omega
            have key : (Instr.sliceBounds true xs.length cap (lo.map a.eval) (some (.int k1 (xs.length : Int))) (some (.int k2 (xs.length : Int)))).run P w = .ok (0, xs.length, xs.length) w := by
              rcases bound_ok ht hl with ⟨rfl, e2⟩ | ⟨z, k', rfl, hz⟩
              · simp [Instr.sliceBounds, Instr.sliceBound, asIntOf, c1]
              · simp [Instr.sliceBounds, Instr.sliceBound, asIntOf, c1, hz]
            simp only [execOp, ho, hq, Instr.sliceAt, Instr.slice, Sem.run_bind, run_underlying hu, Result.andThen_ok, Option.map_some, hyv, hmv, key, run_sizeP hs, Sem.run_pure, Nat.sub_zero, hadd, ite_self]
          cases hq : a.eval x with
          | slice ad n cap =>
            rw [hq] at hvp
            cases hvp with
            | nilsl =>
              rw [run3 none 0 hq (Nat.le_refl _)]
              exact .same hr (.p (.slc .nilsl (.inl rfl))) _
            | sl A n cap f hn hcap hok hel hc hv =>
              subst hn
              rw [run3 (some A) cap hq hcap]
              exact .same hr (.p (.slc (.sl A xs.length xs.length f rfl (Nat.le_refl _) hok hel hc hv) (.inr ⟨A, _, rfl⟩))) _
          | _ => rw [hq] at hvp; cases hvp
        · cases he
      · cases he
    · cases he
  · rename_i m l hx hl
    split at he
    · rename_i y
      split at he
      · rename_i k1 r k2 c hy hm
        simp only [Option.some.injEq] at he; subst he
        obtain ⟨rfl, rfl, rfl⟩ := hp
        have hq := (ev_ok ht hx).v_inv
        have hyv := (ev_ok ht hy).v_inv
        have hmv := (ev_ok ht hm).v_inv
        have key : (Instr.sliceBounds true 0 0 (lo.map a.eval) (some (.int k1 0)) (some (.int k2 0))).run P w = .ok (0, 0, 0) w := by
          rcases bound_ok ht hl with ⟨rfl, e2⟩ | ⟨z, k', rfl, hz⟩
          · simp [Instr.sliceBounds, Instr.sliceBound, asIntOf]
          · simp [Instr.sliceBounds, Instr.sliceBound, asIntOf, hz]
        have run3 : (execOp a.eval o).run P w = .ok (.value (.slice none 0 0)) w := by
          simp only [execOp, ho, hq, Instr.sliceAt, Instr.slice, Sem.run_bind, run_underlying hu, Result.andThen_ok, Option.map_some, hyv, hmv, key, run_sizeP hs, Sem.run_pure, Nat.sub_zero, if_true]
        rw [run3]
        exact .same hr (.p (.v _)) _
      · cases he
    · cases he
  · rename_i m b sz' off len l hx hl
    split at he
    · rename_i y
      split at he
      · rename_i ety s2 xs k1 r k2 c hb hy hm
        split at he
        · rename_i hss
          subst hss
          simp only [Option.some.injEq] at he; subst he
          obtain ⟨h0, hlr, hrc, hcl⟩ := hp
          obtain ⟨hub, _, hown⟩ := (ev_ok ht hx).own_inv
          have hrow := (hr.hp b _ hb).2
          have hyv := (ev_ok ht hy).v_inv
          have hmv := (ev_ok ht hm).v_inv
          have run3 : ∀ ad n cap, a.eval x = .slice ad n cap → c ≤ (cap : Int) → (execOp a.eval o).run P w = .ok (.value (.slice (if c.toNat = l.toNat then ad else ad.map (·.add (l.toNat * sz))) (r.toNat - l.toNat) (c.toNat - l.toNat))) w := by
            intro ad n cap hq hle
            have c1 : 0 ≤ c ∧ c ≤ (cap : Int) := by omega
            have c2 : 0 ≤ r ∧ r ≤ max c 0 := by omega
            have c3 : 0 ≤ l ∧ l ≤ max r 0 := by omega
            have key : (Instr.sliceBounds true n cap (lo.map a.eval) (some (.int k1 r)) (some (.int k2 c))).run P w = .ok (l.toNat, r.toNat, c.toNat) w := by
              rcases bound_ok ht hl with ⟨rfl, e2⟩ | ⟨z, k', rfl, hz⟩
              · have a2 : l.toNat = 0 := by omega
                simp [Instr.sliceBounds, Instr.sliceBound, asIntOf, c1, c2, a2]
              · simp [Instr.sliceBounds, Instr.sliceBound, asIntOf, c1, c2, c3, hz]
            simp only [execOp, ho, hq, Instr.sliceAt, Instr.slice, Sem.run_bind, run_underlying hu, Result.andThen_ok, Option.map_some, hyv, hmv, key, run_sizeP hs, Sem.run_pure]
          obtain ⟨ad, n, cap, hq, hle⟩ : ∃ ad n cap, a.eval x = .slice ad n cap ∧ c ≤ (cap : Int) := by
            cases hloc : ρ b with
            | dead => rcases hrow with ⟨e', _⟩ | ⟨_, _, _, _, e', _⟩ <;> rw [hloc] at e' <;> cases e'
            | nil =>
              rw [hloc] at hown
              obtain ⟨rfl, hv⟩ := hown
              exact ⟨_, _, _, hv, by omega⟩
            | «at» g og n =>
              rw [hloc] at hown
              rcases hown with ⟨rfl, _, hv | ⟨A, hv⟩⟩ | ⟨cap, hlc, hroom, hv⟩
              · exact ⟨_, _, _, hv, by omega⟩
              · exact ⟨_, _, _, hv, by omega⟩
              · exact ⟨_, _, _, hv, by omega⟩
          rw [run3 ad n cap hq hle]
          refine ⟨_, w, ρ, addU U nm, .inl rfl, hr.addDead hn, .own (.inr rfl) ⟨⟨_, _, _, rfl⟩, ?_⟩, fun _ _ hx => hx.mono (fun _ h => h) (fun _ _ => rfl) (fun _ h => .inl h) (fun _ _ => .inl rfl), fun k hk => hk⟩
          rw [hr.deadU hn]; trivial
        · cases he
      · cases he
    · cases he
  · cases he
theorem s_sslice (hr : HR C ρ U h w) (ht : Tm C ρ U w t a) {ty : TypeId} {x : Operand} {lo hi : Option Operand} (hu : P.underlying ty = some .string)
    (ho : o.op = .slice ty x lo hi none) (he : eff nm t h (.sslice x lo hi) = some e) (hp : e.pre) : Run C ρ U h w nm ((execOp a.eval o).run P w) e := by
  simp only [eff] at he
  split at he
  · rename_i s l hx hl
    have hv := (ev_ok ht hx).v_inv
    split at he
    · rename_i r hr'
      simp only [Option.some.injEq] at he; subst he
      obtain ⟨h0, hlr, hrl⟩ := hp
      simp only [execOp, ho, hv, Instr.sliceAt, Instr.slice, Sem.run_bind, run_underlying hu, Result.andThen_ok, Option.map_none, Option.isSome_none, Bool.false_eq_true, if_false, run_bounds ht false hl hr' rfl rfl h0 hlr hrl, Sem.run_pure]
      exact .same hr (.p (.v _)) _
    · cases he
  · cases he
theorem s_sarr (hr : HR C ρ U h w) (ht : Tm C ρ U w t a) {ty el : TypeId} {n sz : Nat} {x : Operand} (hu : P.underlying ty = some (.array n el)) (hs : sizeP P el = some sz)
    (ho : o.op = .slice ty x none none none) (he : eff nm t h (.sarr n sz x) = some e) : Run C ρ U h w nm ((execOp a.eval o).run P w) e := by
  simp only [eff] at he
  split at he
  · rename_i b hx
    split at he
    · rename_i cs hb
      split at he
      · rename_i hc
        obtain ⟨hcl, hn0, h4⟩ := hc
        simp only [E.ok, Option.some.injEq] at he; subst he
        obtain ⟨hub, ad, hv, had⟩ := (ev_ok ht hx).ptr_inv
        obtain ⟨_, g, off, n', ety, cells, hl, hg, hle, hn, _⟩ := hr.hp b _ hb
        have h1 := had g off n' hl
        subst h1
        have hb0 : ∀ w', (Instr.sliceBounds false n n none none none).run P w' = .ok (0, n, n) w' := fun w' => by simp [Instr.sliceBounds]
        have hrun : (execOp a.eval o).run P w = .ok (.value (.slice (some ⟨g, off, none⟩) n n)) w := by
          simp only [execOp, ho, hv, Instr.sliceAt, Instr.sureAddr, Option.map_none, Sem.run_bind, run_underlying hu, Sem.run_pure, Result.andThen_ok, hb0, run_sizeP hs, if_neg (Nat.pos_iff_ne_zero.1 hn0)]
          simp [add_plain]
        rw [hrun]
        refine .same hr (.own hub ⟨⟨_, _, _, rfl⟩, ?_⟩) _
        rw [hl]
        exact .inr ⟨n, Nat.le_refl _, by rw [hn, hcl, Nat.zero_add], by simp⟩
      · cases he
    · cases he
  · cases he
theorem s_idxs (hr : HR C ρ U h w) (ht : Tm C ρ U w t a) {ty : TypeId} {x i : Operand} (hu : P.underlying ty = some .string)
    (ho : o.op = .index ty x i) (he : eff nm t h (.idxs x i) = some e) (hp : e.pre) : Run C ρ U h w nm ((execOp a.eval o).run P w) e := by
  simp only [eff] at he
  split at he
  · rename_i s k n hx hi
    have hv := (ev_ok ht hx).v_inv
    have hin := (ev_ok ht hi).v_inv
    simp only [Option.some.injEq] at he; subst he
    obtain ⟨h0, hlt⟩ := hp
    have hlt' : n.toNat < s.data.size := by have : s.size = s.data.size := rfl; omega
    have hg : s[n.toNat]? = some (s.data[n.toNat]?.getD 0) := by
      rw [show s[n.toNat]? = s.data[n.toNat]? from rfl, Array.getElem?_eq_getElem hlt']
      rfl
    simp only [execOp, ho, hv, hin, Instr.index, asIntOf, Sem.run_bind, Sem.run_pure, run_underlying hu, Result.andThen_ok, h0, if_true, hg]
    exact .same hr (.p (.v _)) _
  · cases he
theorem s_idx (hr : HR C ρ U h w) (ht : Tm C ρ U w t a) {ty el : TypeId} {n sz : Nat} {ag : Bool} {x i : Operand} (hu : P.underlying ty = some (.array n el)) (hs : sizeP P el = some sz) (ha : aggP P el = some ag)
    (ho : o.op = .index ty x i) (he : eff nm t h (.idx ag n sz x i) = some e) (hp : e.pre) : Run C ρ U h w nm ((execOp a.eval o).run P w) e := by
  simp only [eff] at he
  split at he
  · rename_i cs k q hx hi
    obtain ⟨vs, hv, hvl⟩ := (ev_ok ht hx).agg_inv
    have hin := (ev_ok ht hi).v_inv
    split at he
    · rename_i hag
      simp only [Option.some.injEq] at he; subst he
      obtain ⟨h0, hlt, hfit⟩ := hp
      simp only [execOp, ho, hv, hin, Instr.index, asIntOf, Sem.run_bind, Sem.run_pure, run_underlying hu, Result.andThen_ok, h0, hlt, and_self, Sem.run_ite, if_true, run_sizeP hs, part, run_isAgg ha, hag]
      refine .same hr (.agg ?_ fun j c u hc hj => ?_) _
      · have := hvl.1; simp; omega
      · rw [Array.getElem?_extract] at hj
        rw [List.getElem?_take] at hc
        split at hj
        · split at hc
          · rw [List.getElem?_drop] at hc
            exact hvl.2 _ _ _ hc hj
          · cases hc
        · cases hj
    · rename_i hag
      have hag' : ag = false := by simpa using hag
      split at he
      · rename_i c hc
        simp only [Option.some.injEq] at he; subst he
        obtain ⟨h0, hlt⟩ := hp
        have hl : q.toNat * sz < vs.size := by rw [← hvl.1]; exact (List.getElem?_eq_some_iff.1 hc).1
        have hg : vs[q.toNat * sz]? = some vs[q.toNat * sz] := Array.getElem?_eq_getElem hl
        simp only [execOp, ho, hv, hin, Instr.index, asIntOf, Sem.run_bind, Sem.run_pure, run_underlying hu, Result.andThen_ok, h0, hlt, and_self, Sem.run_ite, if_true, run_sizeP hs, part, run_isAgg ha, hag', Bool.false_eq_true, if_false, hg]
        exact .same hr (hvl.2 _ _ _ hc hg) _
      · cases he
  · cases he
end
end Go.Eng
