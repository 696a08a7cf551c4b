/-
  The engine, part 3h: what a slice holds; append.
  No condition: lemmas.
-/
import Derived.Test.YteonhcjaekodkaaEng3g
set_option linter.all false
namespace Go.Eng
open Go
section
variable {P : Program} {C : Ctx} {ρ : Nat → Loc} {U : Nat → Prop} {h : List (Nat × Ob)} {w : World} {nm : Nat} {t : List (Nat × AV)} {a : Act} {o : Oper} {e : E}

/-- A slice value whose cells are known. -/
structure Reads (w : World) (ok : Nat → Prop) (sz : Nat) (xs : List (List AV)) (u : Value) (vals : List Value) : Prop where
  form : ∃ ad cap, u = .slice ad xs.length cap ∧ (ad = none → xs = []) ∧ ∀ A, ad = some A → ∀ j v, vals[j]? = some v → w.cell? (A.add j) = some v
  len : vals.length = xs.length * sz
  el : ∀ (k : Nat) (x : List AV), xs[k]? = some x → x.length = sz
  one : ∀ q ∈ vals, q.oneCell' = true
  rel : ∀ (k : Nat) (x : List AV) (j : Nat) (c : AV), xs[k]? = some x → x[j]? = some c → ∃ v, vals[k * sz + j]? = some v ∧ VP w ok c v

theorem add_spot (A : Addr) (j : Nat) (hs : A.spot = none) : A.add j = ⟨A.block, A.off + j, none⟩ := by
  obtain ⟨g, o, sp⟩ := A
  simp only at hs
  subst hs
  exact add_plain g o j

theorem divmod_lt {k j sz : Nat} (hj : j < sz) : (k * sz + j) / sz = k ∧ (k * sz + j) % sz = j := by
  have h0 : 0 < sz := by omega
  constructor
  · rw [Nat.mul_comm, Nat.mul_add_div h0, Nat.div_eq_of_lt hj, Nat.add_zero]
  · rw [Nat.mul_comm, Nat.mul_add_mod, Nat.mod_eq_of_lt hj]

theorem contents_reads (hr : HR C ρ U h w) {sz : Nat} {x : AV} {u : Value} {p : Prop} {xs : List (List AV)} (hsz : 0 < sz) (hv : VR w (okc C ρ w) ρ U x u)
    (hc : contentsN h sz (some x) = some (p, xs)) (hp : p) : ∃ vals, Reads w (okc C ρ w) sz xs u vals := by
  unfold contentsN at hc
  split at hc
  · rename_i e0
    simp only [Option.some.injEq] at e0
    subst e0
    simp only [Option.some.injEq, Prod.mk.injEq] at hc
    obtain ⟨_, rfl⟩ := hc
    have := hv.v_inv
    subst this
    exact ⟨[], ⟨⟨none, 0, rfl, fun _ => rfl, fun A h => by cases h⟩, by simp, by simp, by simp, by simp⟩⟩
  · rename_i sz' xs' e0
    simp only [Option.some.injEq] at e0
    subst e0
    split at hc
    · rename_i hss
      subst hss
      simp only [Option.some.injEq, Prod.mk.injEq] at hc
      obtain ⟨_, rfl⟩ := hc
      have hvp := hv.sl_inv
      cases hvp with
      | nilsl => exact ⟨[], ⟨⟨none, 0, rfl, fun _ => rfl, fun A h => by cases h⟩, by simp, by simp, by simp, by simp⟩⟩
      | sl A n cap f hn hcap hok hl hcc hvv =>
        subst hn
        refine ⟨(List.range (xs'.length * sz)).map fun q => f (q / sz) (q % sz), ⟨⟨some A, cap, rfl, by simp, fun A' hA j v hj => ?_⟩, by simp, hl, fun v hv => ?_, fun k x j c hk hj => ?_⟩⟩
        · cases hA
          have hjl : j < xs'.length * sz := by simpa using (List.getElem?_eq_some_iff.1 hj).1
          have h1 : j / sz < xs'.length := Nat.div_lt_of_lt_mul (by rw [Nat.mul_comm]; exact hjl)
          have h2 : j % sz < sz := Nat.mod_lt _ hsz
          simp only [List.getElem?_map, List.getElem?_range hjl, Option.map_some, Option.some.injEq] at hj
          subst hj
          have hx := List.getElem?_eq_getElem h1
          have hlen := hl _ _ hx
          have hy := List.getElem?_eq_getElem (l := xs'[j / sz]) (i := j % sz) (by omega)
          have := (hcc _ _ _ _ hx hy).1
          rw [add_spot _ _ (hok (Nat.lt_of_le_of_lt (Nat.zero_le _) h1)).1]
          rw [show j / sz * sz + j % sz = j from by rw [Nat.mul_comm]; exact Nat.div_add_mod j sz] at this
          exact this
        · obtain ⟨j, hj, rfl⟩ := List.mem_map.1 hv
          have hjl : j < xs'.length * sz := by simpa using hj
          have h1 : j / sz < xs'.length := Nat.div_lt_of_lt_mul (by rw [Nat.mul_comm]; exact hjl)
          have h2 : j % sz < sz := Nat.mod_lt _ hsz
          have hx := List.getElem?_eq_getElem h1
          have hlen := hl _ _ hx
          have hy := List.getElem?_eq_getElem (l := xs'[j / sz]) (i := j % sz) (by omega)
          exact (hcc _ _ _ _ hx hy).2
        · have hjs : j < sz := by rw [← hl k x hk]; exact (List.getElem?_eq_some_iff.1 hj).1
          have hkl : k < xs'.length := (List.getElem?_eq_some_iff.1 hk).1
          have hlt : k * sz + j < xs'.length * sz := by
            have : (k + 1) * sz ≤ xs'.length * sz := Nat.mul_le_mul_right _ hkl
            rw [Nat.add_mul, Nat.one_mul] at this
            omega
          refine ⟨f k j, ?_, hvv k x j c hk hj⟩
          simp only [List.getElem?_map, List.getElem?_range hlt, Option.map_some, (divmod_lt (k := k) hjs).1, (divmod_lt (k := k) hjs).2]
    · cases hc
  · rename_i b sz' off len e0
    simp only [Option.some.injEq] at e0
    subst e0
    obtain ⟨hu, ⟨ad, len', cap', hsl⟩, hown⟩ := hv.own_inv
    split at hc
    · rename_i ety sz'' ys hb
      split at hc
      · rename_i hss
        obtain ⟨h1, h2⟩ := hss
        subst h1; subst h2
        simp only [Option.some.injEq, Prod.mk.injEq] at hc
        obtain ⟨hp', rfl⟩ := hc
        have hfit : off + len ≤ ys.length := by rw [hp']; exact hp
        have hlen : ((ys.drop off).take len).length = len := by simp; omega
        by_cases h0 : len = 0
        · subst h0
          have hform : ∃ ad cap, u = .slice ad 0 cap := by
            cases hl : ρ b with
            | dead => rcases (hr.hp b _ hb).2 with ⟨e', _⟩ | ⟨_, _, _, _, e', _⟩ <;> rw [hl] at e' <;> cases e'
            | nil => rw [hl] at hown; exact ⟨_, _, hown.2⟩
            | «at» g o n' =>
              rw [hl] at hown
              rcases hown with ⟨_, hv | ⟨ad, hv⟩⟩ | ⟨cap, _, _, hv⟩ <;> exact ⟨_, _, hv⟩
          obtain ⟨ad, cap, rfl⟩ := hform
          exact ⟨[], ⟨⟨ad, cap, by simp, by simp, by simp⟩, by simp, by simp, by simp, by simp⟩⟩
        · obtain ⟨g, o, n, cells, hl, hg, hcs, hroom, hrl, hcell⟩ := row_at hr hb (by omega)
          rw [hl] at hown
          rcases hown with ⟨hz, _⟩ | ⟨cap, hlc, hcap, rfl⟩
          · exact absurd hz h0
          · have hmul : (off + len) * sz ≤ ys.length * sz := Nat.mul_le_mul_right _ hfit
            rw [Nat.add_mul] at hmul
            refine ⟨(cells.extract (o + off * sz) (o + off * sz + len * sz)).toList, ⟨⟨some ⟨g, o + off * sz, none⟩, cap, by rw [hlen], by simp, fun A hA j v hj => ?_⟩, ?_, fun k x hk => ?_, fun v hv => ?_, fun k x j c hk hj => ?_⟩⟩
            · cases hA
              rw [add_plain, cell_heap hg]
              rw [Array.getElem?_toList, Array.getElem?_extract] at hj
              split at hj
              · exact hj
              · cases hj
            · simp only [Array.length_toList, Array.size_extract, hlen]; omega
            · rw [List.getElem?_take] at hk
              split at hk
              · rw [List.getElem?_drop] at hk; exact hrl _ x hk
              · cases hk
            · obtain ⟨i, hi, rfl⟩ := List.mem_iff_getElem.1 hv
              have hi' : i < len * sz := by simp only [Array.length_toList, Array.size_extract] at hi; omega
              have h1 : i / sz < len := Nat.div_lt_of_lt_mul (by rw [Nat.mul_comm]; exact hi')
              have h2 : i % sz < sz := Nat.mod_lt _ hsz
              have hx := List.getElem?_eq_getElem (l := ys) (i := off + i / sz) (by omega)
              have hlen' := hrl _ _ hx
              have hy := List.getElem?_eq_getElem (l := ys[off + i / sz]) (i := i % sz) (by omega)
              obtain ⟨u, hu1, hu2, _⟩ := hcell _ _ _ _ hx hy
              have he : (cells.extract (o + off * sz) (o + off * sz + len * sz)).toList[i]? = some u := by
                rw [Array.getElem?_toList, Array.getElem?_extract, if_pos (by omega)]
                rw [show o + off * sz + i = o + ((off + i / sz) * sz + i % sz) from by
                  have := Nat.div_add_mod i sz
                  rw [Nat.mul_comm] at this
                  rw [Nat.add_mul]; omega]
                exact hu1
              rw [List.getElem?_eq_getElem hi] at he
              cases he
              exact hu2
            · rw [List.getElem?_take] at hk
              split at hk
              · rename_i hkl
                rw [List.getElem?_drop] at hk
                obtain ⟨v, hv1, _, hv2⟩ := hcell _ x j c hk hj
                have hjs : j < sz := by rw [← hrl _ x hk]; exact (List.getElem?_eq_some_iff.1 hj).1
                have hlt : k * sz + j < len * sz := by
                  have : (k + 1) * sz ≤ len * sz := Nat.mul_le_mul_right _ hkl
                  rw [Nat.add_mul, Nat.one_mul] at this
                  omega
                refine ⟨v, ?_, hv2⟩
                rw [Array.getElem?_toList, Array.getElem?_extract, if_pos (by omega)]
                rw [show o + off * sz + (k * sz + j) = o + ((off + k) * sz + j) from by rw [Nat.add_mul]; omega]
                exact hv1
              · cases hk
      · cases hc
    · cases hc
  · cases hc

end
end Go.Eng
