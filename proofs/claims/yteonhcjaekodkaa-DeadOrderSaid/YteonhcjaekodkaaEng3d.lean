/-
  The engine, part 3d: addresses, fields, loads.
  No condition: lemmas.
-/
import Derived.Test.YteonhcjaekodkaaEng3c
set_option linter.all false
namespace Go.Eng
open Go
section
variable {P : Program} {C : Ctx} {ρ : Nat → Loc} {U : Nat → Prop} {h : List (Nat × Ob)} {w : World} {nm : Nat} {t : List (Nat × AV)} {a : Act} {o : Oper} {e : E}

theorem sizeP_info {ty : TypeId} {sz : Nat} (hs : sizeP P ty = some sz) : ∃ i, P.info? ty = some i ∧ i.size = sz := by
  unfold sizeP at hs
  split at hs
  · rename_i i hi; simp only [Option.some.injEq] at hs; exact ⟨i, hi, hs⟩
  · cases hs

theorem run_sizeP {ty : TypeId} {sz : Nat} (hs : sizeP P ty = some sz) (w : World) : (sizeOf ty).run P w = .ok sz w := by
  obtain ⟨i, hi, rfl⟩ := sizeP_info hs
  simp [sizeOf, typeInfo, hi]

theorem run_isAgg {ty : TypeId} {ag : Bool} (hs : aggP P ty = some ag) (w : World) : (isAgg ty).run P w = .ok ag w := by
  unfold aggP at hs
  unfold isAgg
  cases hu : P.underlying ty with
  | none => rw [hu] at hs; cases hs
  | some d =>
    rw [hu] at hs
    rw [Sem.run_bind, run_underlying hu]
    cases d <;> simp_all

theorem add_plain (g o n : Nat) : (⟨g, o, none⟩ : Addr).add n = ⟨g, o + n, none⟩ := by
  unfold Addr.add
  split <;> simp_all

/-- What is read at a place whose cells are known. -/
theorem run_load_at {ty : TypeId} {ag : Bool} {sz g o : Nat} (ha : aggP P ty = some ag) (hs : sizeP P ty = some sz) {cs : List AV} {vs : Array Value} {ok : Nat → Prop}
    (hl : cs.length = vs.size) (hc : ∀ j v, vs[j]? = some v → w.cell? ⟨g, o + j, none⟩ = some v) (hv : ∀ (j : Nat) (c : AV) (v : Value), cs[j]? = some c → vs[j]? = some v → VR w ok ρ U c v) :
    (ag = true → sz = cs.length → ∃ v, (loadVar ty ⟨g, o, none⟩).run P w = .ok v w ∧ VR w ok ρ U (.agg cs) v) ∧
    (ag = false → ∀ c, cs[0]? = some c → ∃ v, (loadVar ty ⟨g, o, none⟩).run P w = .ok v w ∧ VR w ok ρ U c v) := by
  refine ⟨fun h1 h2 => ?_, fun h1 c h0 => ?_⟩
  · subst h1
    refine ⟨.agg vs, ?_, .agg hl hv⟩
    have hL := run_loadCells_list (P := P) w ⟨g, o, none⟩ vs.toList (fun j v hj => by
      rw [add_plain]; exact hc j v (by simpa using hj))
    rw [h2, hl] at hs
    simp only [Array.length_toList, Array.toArray_toList] at hL
    simp only [loadVar, Sem.run_bind, run_isAgg ha, run_sizeP hs, Result.andThen_ok, if_true, hL, Sem.run_pure]
  · subst h1
    have hlt : 0 < vs.size := by rw [← hl]; exact (List.getElem?_eq_some_iff.1 h0).1
    have hg : vs[0]? = some vs[0] := Array.getElem?_eq_getElem hlt
    have := hc 0 _ hg
    simp only [Nat.add_zero] at this
    exact ⟨vs[0], by simp [loadVar, run_isAgg ha, this], hv 0 c _ h0 hg⟩

theorem cell_heap {g j : Nat} {cells : Array Value} {ty : TypeId} {fz : Nat × Nat} (hg : w.heap[g]? = some (.cells cells ty fz)) : w.cell? ⟨g, j, none⟩ = cells[j]? := cell_of_row w g j cells ty fz hg

theorem ranged {α : Type} (f : Nat → α) (m i : Nat) (v : α) : (((List.range m).map f).toArray)[i]? = some v ↔ ∃ _ : i < m, f i = v := by
  by_cases hi : i < m
  · simp [List.getElem?_range hi, hi]
  · simp [hi]

theorem s_load (hr : HR C ρ U h w) (ht : Tm C ρ U w t a) {ty : TypeId} {ag : Bool} {sz : Nat} {x : Operand} (ha : aggP P ty = some ag) (hs : sizeP P ty = some sz)
    (ho : o.op = .load ty x) (he : eff nm t h (.load ag sz x) = some e) (hp : e.pre) : Run C ρ U h w nm ((execOp a.eval o).run P w) e := by
  -- the shape of every way: an address, the cells there
  have key : ∀ (g off : Nat) (cs : List AV) (vs : Array Value), a.eval x = .pointer (some ⟨g, off, none⟩) → cs.length = vs.size →
      (∀ j v, vs[j]? = some v → w.cell? ⟨g, off + j, none⟩ = some v) → (∀ (j : Nat) (c : AV) (v : Value), cs[j]? = some c → vs[j]? = some v → VR w (okc C ρ w) ρ U c v) →
      (ag = true → sz = cs.length → ∀ p, Run C ρ U h w nm ((execOp a.eval o).run P w) ⟨p, .agg cs, []⟩) ∧ (ag = false → ∀ c, cs[0]? = some c → ∀ p, Run C ρ U h w nm ((execOp a.eval o).run P w) ⟨p, c, []⟩) := by
    intro g off cs vs hx hl hc hv
    have hR := run_load_at (P := P) ha hs hl hc hv
    refine ⟨fun h1 h2 p => ?_, fun h1 c h0 p => ?_⟩
    · obtain ⟨v, hrun, hvr⟩ := hR.1 h1 h2
      simp only [execOp, ho, hx, Instr.loadAt, Instr.sureAddr, Sem.run_bind, Sem.run_pure, Result.andThen_ok, hrun]
      exact .same hr hvr p
    · obtain ⟨v, hrun, hvr⟩ := hR.2 h1 c h0
      simp only [execOp, ho, hx, Instr.loadAt, Instr.sureAddr, Sem.run_bind, Sem.run_pure, Result.andThen_ok, hrun]
      exact .same hr hvr p
  simp only [eff] at he
  split at he
  · -- a pointer into a box
    rename_i b j hx
    obtain ⟨hu, ad, hax, had⟩ := (ev_ok ht hx).ptr_inv
    split at he
    · rename_i cs hb
      obtain ⟨g, off, n, ety, cells, h1, h2, h3, h4, h5⟩ := (hr.hp b _ hb).2
      have had' := had g off n h1
      subst had'
      have cellok : ∀ (k m : Nat), k + m ≤ cs.length → ∀ (i : Nat) (v : Value), (cells.extract (off + k) (off + k + m))[i]? = some v → w.cell? ⟨g, off + k + i, none⟩ = some v := by
        intro k m hkm i v hi
        rw [cell_heap h2]
        rw [Array.getElem?_extract] at hi
        split at hi
        · exact hi
        · cases hi
      have vrok : ∀ (k m : Nat), k + m ≤ cs.length → ∀ (i : Nat) (c : AV) (v : Value), ((cs.drop k).take m)[i]? = some c → (cells.extract (off + k) (off + k + m))[i]? = some v → VR w (okc C ρ w) ρ U c v := by
        intro k m hkm i c v hc hi
        rw [Array.getElem?_extract] at hi
        rw [List.getElem?_take] at hc
        split at hi
        · split at hc
          · rw [List.getElem?_drop] at hc
            obtain ⟨u, hu1, hu2⟩ := h5 (k + i) c hc
            rw [show off + (k + i) = off + k + i from by omega] at hu1
            rw [hi] at hu1
            cases hu1
            exact hu2
          · cases hc
        · cases hi
      have lenok : ∀ (k m : Nat), k + m ≤ cs.length → ((cs.drop k).take m).length = (cells.extract (off + k) (off + k + m)).size := by
        intro k m hkm
        simp
        omega
      split at he
      · rename_i hag
        split at he
        · rename_i hjs
          simp only [E.ok, Option.some.injEq] at he; subst he
          exact (key g (off + j) _ _ hax (lenok j sz hjs) (cellok j sz hjs) (vrok j sz hjs)).1 hag (by simp; omega) _
        · cases he
      · rename_i hag
        split at he
        · rename_i c hc
          simp only [E.ok, Option.some.injEq] at he; subst he
          have hlt : j < cs.length := (List.getElem?_eq_some_iff.1 hc).1
          exact (key g (off + j) _ _ hax (lenok j 1 (by omega)) (cellok j 1 (by omega)) (vrok j 1 (by omega))).2 (by simpa using hag) c (by simp [List.getElem?_take, hc]) _
        · cases he
    · cases he
  · -- a pointer into what is only read
    rename_i cs j hx
    have hvp := (ev_ok ht hx).pel_inv
    cases hq : a.eval x with
    | pointer ad =>
      rw [hq] at hvp
      cases hvp with
      | pel g off f hok hc hv =>
        have cellok : ∀ (k m : Nat), k + m ≤ cs.length → ∀ (i : Nat) (v : Value), (((List.range m).map fun i => f (k + i)).toArray)[i]? = some v → w.cell? ⟨g, off + k + i, none⟩ = some v := by
          intro k m hkm i v hi
          rw [ranged] at hi
          obtain ⟨hi1, rfl⟩ := hi
          have := hc (k + i) _ (List.getElem?_eq_getElem (by omega))
          rw [show off + k + i = off + (k + i) from by omega]
          exact this
        have vrok : ∀ (k m : Nat), k + m ≤ cs.length → ∀ (i : Nat) (c : AV) (v : Value), ((cs.drop k).take m)[i]? = some c → (((List.range m).map fun i => f (k + i)).toArray)[i]? = some v → VR w (okc C ρ w) ρ U c v := by
          intro k m hkm i c v hcc hi
          rw [ranged] at hi
          obtain ⟨hi1, rfl⟩ := hi
          rw [List.getElem?_take, if_pos hi1, List.getElem?_drop] at hcc
          exact .p (hv _ _ hcc)
        split at he
        · rename_i hag
          split at he
          · rename_i hjs
            simp only [E.ok, Option.some.injEq] at he; subst he
            exact (key g (off + j) _ _ hq (by simp; omega) (cellok j sz hjs) (vrok j sz hjs)).1 hag (by simp; omega) _
          · cases he
        · rename_i hag
          split at he
          · rename_i c hcc
            simp only [E.ok, Option.some.injEq] at he; subst he
            have hlt : j < cs.length := (List.getElem?_eq_some_iff.1 hcc).1
            exact (key g (off + j) ((cs.drop j).take 1) _ hq (by simp; omega) (cellok j 1 (by omega)) (vrok j 1 (by omega))).2 (by simpa using hag) c (by simp [List.getElem?_take, hcc]) _
          · cases he
    | _ => rw [hq] at hvp; cases hvp
  · -- a pointer into a row
    rename_i b sz' k j hx
    obtain ⟨hu, ad, hax, had⟩ := (ev_ok ht hx).rp_inv
    split at he
    · rename_i ety sz'' xs hb
      split at he
      · rename_i hsz
        subst hsz
        have h0 := (hr.hp b _ hb).2
        have hk : k < xs.length := by
          split at he <;> (simp only [Option.some.injEq] at he; subst he; exact hp.1)
        rcases h0 with ⟨_, h0⟩ | ⟨g, off, n, cells, h1, h2, h3, h4, h5, h6⟩
        · subst h0; simp at hk
        · have had' := had g off n h1
          subst had'
          have hxk : xs[k]? = some (nth xs k) := by
            rw [List.getElem?_eq_getElem hk]
            simp [nth, List.getElem?_eq_getElem hk]
          have hlen := h5 k _ hxk
          have hroom : off + k * sz' + sz' ≤ cells.size := by
            have : (k + 1) * sz' ≤ xs.length * sz' := Nat.mul_le_mul_right _ hk
            rw [Nat.add_mul, Nat.one_mul] at this
            omega
          have cellok : ∀ (q m : Nat), q + m ≤ sz' → ∀ (i : Nat) (v : Value), (cells.extract (off + (k * sz' + q)) (off + (k * sz' + q) + m))[i]? = some v → w.cell? ⟨g, off + (k * sz' + q) + i, none⟩ = some v := by
            intro q m hkm i v hi
            rw [cell_heap h2]
            rw [Array.getElem?_extract] at hi
            split at hi
            · exact hi
            · cases hi
          have vrok : ∀ (q m : Nat), q + m ≤ sz' → ∀ (i : Nat) (c : AV) (v : Value), (((nth xs k).drop q).take m)[i]? = some c → (cells.extract (off + (k * sz' + q)) (off + (k * sz' + q) + m))[i]? = some v → VR w (okc C ρ w) ρ U c v := by
            intro q m hkm i c v hc hi
            rw [Array.getElem?_extract] at hi
            rw [List.getElem?_take] at hc
            split at hi
            · split at hc
              · rw [List.getElem?_drop] at hc
                obtain ⟨u, hu1, _, hu2⟩ := h6 k _ (q + i) c hxk hc
                rw [show off + (k * sz' + (q + i)) = off + (k * sz' + q) + i from by omega] at hu1
                rw [hi] at hu1
                cases hu1
                exact .p hu2
              · cases hc
            · cases hi
          split at he
          · rename_i hag
            simp only [Option.some.injEq] at he; subst he
            have hj := hp.2
            exact (key g _ _ _ hax (by simp [hlen]; omega) (cellok j sz hj) (vrok j sz hj)).1 hag (by simp [hlen]; omega) _
          · rename_i hag
            simp only [Option.some.injEq] at he; subst he
            have hj := hp.2
            have hc : (nth xs k)[j]? = some (((nth xs k)[j]?).getD (.v undef)) := by
              rw [List.getElem?_eq_getElem (by omega)]; rfl
            exact (key g _ (((nth xs k).drop j).take 1) _ hax (by simp [hlen]; omega) (cellok j 1 (by omega)) (vrok j 1 (by omega))).2 (by simpa using hag) _
              (by rw [List.getElem?_take]; simp; exact hc) _
      · cases he
    · cases he
  · cases he

end
end Go.Eng
