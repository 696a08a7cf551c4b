/-
  The engine, part 3k: slices written out, make, comparisons of structs, maps, parts of slices and strings.
  No condition: lemmas.
-/
import Derived.Test.YteonhcjaekodkaaEng3j
set_option linter.all false
namespace Go.Eng
open Go
section
variable {P : Program} {C : Ctx} {ρ : Nat → Loc} {U : Nat → Prop} {h : List (Nat × Ob)} {w : World} {nm : Nat} {t : List (Nat × AV)} {a : Act} {o : Oper} {e : E}

theorem s_buildA (hr : HR C ρ U h w) (ht : Tm C ρ U w t a) {ty el : TypeId} {n sz : Nat} {zs : List Value} {parts : Array (Nat × Operand)}
    (h1 : P.underlying ty = some (.array n el)) (hz : zerosOf P ty = some zs) (hs : sizeP P el = some sz)
    (ho : o.op = .build ty parts) (he : eff nm t h (.build zs (parts.toList.map fun p => (p.1 * sz, sz, p.2))) = some e) : Run C ρ U h w nm ((execOp a.eval o).run P w) e := by
  simp only [eff] at he
  split at he
  · rename_i qs hqs
    split at he
    · rename_i cs hcs
      simp only [E.ok, Option.some.injEq] at he; subst he
      obtain ⟨i, z, hi, hiz, hzl⟩ := zerosOf_info hz
      subst hzl
      have hA := partsA_ok ht _ _ hqs
      have hfill := fill_ok (w := w) (ρ := ρ) (U := U) (ok := okc C ρ w) (fun k => some (k * sz, sz)) (parts.toList.map fun p => (p.1, a.eval p.2)) qs z.cells _ cs zeros_VL hcs
        (by rw [List.length_map, ← hA.1, List.length_map]) (fun k p q hp hq => by
          simp only [List.getElem?_map, Option.map_eq_some_iff] at hp
          obtain ⟨p0, hp0, rfl⟩ := hp
          obtain ⟨e4, e5, e6⟩ := hA.2 k (p0.1 * sz, sz, p0.2) q (by simp [hp0]) hq
          simp only at e4 e5 e6 ⊢
          exact ⟨by rw [e4, ← e5], e6⟩)
      obtain ⟨cells', hc, hv⟩ := hfill
      have hrun : (execOp a.eval o).run P w = .ok (.value (.agg cells')) w := by
        have e0 : (parts.map fun (x : Nat × Operand) => (x.1, a.eval x.2)).toList = parts.toList.map fun p => (p.1, a.eval p.2) := by simp
        simp only [execOp, ho, Instr.build, Sem.run_bind, zeroValue, typeInfo, run_program, hi, hiz, Sem.run_pure, Result.andThen_ok, run_underlying h1, run_sizeP hs]
        rw [e0, hc]
        rfl
      rw [hrun]
      exact .same hr (.agg hv.1 hv.2) True
    · cases he
  · cases he

theorem kindsOf_get : ∀ (fs : List Field) (i : Nat) (ks : List Nat), kindsOf P fs i = some ks → fs.length = ks.length ∧
    ∀ (j : Nat) (f : Field) (k : Nat), fs[j]? = some f → ks[j]? = some k → f.offset = i + j ∧ f.name ≠ "_" ∧ ((k = 0 ∧ ∃ q, P.underlying f.type = some (.int q)) ∨ (k = 1 ∧ P.underlying f.type = some .string) ∨ (k = 2 ∧ P.underlying f.type = some .bool))
  | [], _, ks, hk => by simp only [kindsOf, Option.some.injEq] at hk; subst hk; simp
  | f :: fs, i, ks, hk => by
    simp only [kindsOf] at hk
    split at hk
    · rename_i hc
      split at hk
      · rename_i q ks' hu hks
        simp only [Option.some.injEq] at hk; subst hk
        have ih := kindsOf_get fs (i + 1) ks' hks
        refine ⟨by simp [ih.1], fun j f' k hf hk => ?_⟩
        cases j with
        | zero => simp at hf hk; subst hf; subst hk; exact ⟨hc.1, hc.2, .inl ⟨rfl, q, hu⟩⟩
        | succ j =>
          have := ih.2 j f' k (by simpa using hf) (by simpa using hk)
          exact ⟨by rw [this.1]; omega, this.2⟩
      · rename_i ks' hu hks
        simp only [Option.some.injEq] at hk; subst hk
        have ih := kindsOf_get fs (i + 1) ks' hks
        refine ⟨by simp [ih.1], fun j f' k hf hk => ?_⟩
        cases j with
        | zero => simp at hf hk; subst hf; subst hk; exact ⟨hc.1, hc.2, .inr (.inl ⟨rfl, hu⟩)⟩
        | succ j =>
          have := ih.2 j f' k (by simpa using hf) (by simpa using hk)
          exact ⟨by rw [this.1]; omega, this.2⟩
      · rename_i ks' hu hks
        simp only [Option.some.injEq] at hk; subst hk
        have ih := kindsOf_get fs (i + 1) ks' hks
        refine ⟨by simp [ih.1], fun j f' k hf hk => ?_⟩
        cases j with
        | zero => simp at hf hk; subst hf; subst hk; exact ⟨hc.1, hc.2, .inr (.inr ⟨rfl, hu⟩)⟩
        | succ j =>
          have := ih.2 j f' k (by simpa using hf) (by simpa using hk)
          exact ⟨by rw [this.1]; omega, this.2⟩
      · cases hk
    · cases hk

theorem part_plain {ty : TypeId} {cs : Array Value} {off : Nat} {v : Value} (hu : (∃ q, P.underlying ty = some (.int q)) ∨ P.underlying ty = some .string ∨ P.underlying ty = some .bool) (hv : cs[off]? = some v) (w : World) :
    (part ty cs off).run P w = .ok v w := by
  have ha : aggP P ty = some false := by
    unfold aggP
    rcases hu with ⟨q, hu⟩ | hu | hu <;> rw [hu]
  simp only [part, Sem.run_bind, run_isAgg ha, Result.andThen_ok, Bool.false_eq_true, if_false, hv, Sem.run_pure]

theorem eqFields_run (d : Nat) (xs ys : Array Value) (w : World) : ∀ (fs : List Field) (i : Nat) (ks : List Nat) (as bs : List AV) (r : Bool), kindsOf P fs i = some ks → eqCells ks as bs = some r →
    (∀ (j : Nat) (c : AV) (v : Value), as[j]? = some c → xs[i + j]? = some v → VR w (okc C ρ w) ρ U c v) → (∀ (j : Nat) (c : AV) (v : Value), bs[j]? = some c → ys[i + j]? = some v → VR w (okc C ρ w) ρ U c v) →
    i + as.length = xs.size → i + bs.length = ys.size → (Op.eqFields (d + 1) xs ys fs).run P w = .ok r w
  | [], i, ks, as, bs, r, hk, hr, _, _, _, _ => by
    simp only [kindsOf, Option.some.injEq] at hk; subst hk
    cases as <;> cases bs <;> simp [eqCells] at hr
    subst hr
    rfl
  | f :: fs, i, ks, as, bs, r, hk, hr, ha, hb, hla, hlb => by
    simp only [kindsOf] at hk
    split at hk
    · rename_i hc
      have step : ∀ (a b : Value) (as' bs' : List AV) (ks' : List Nat) (q r' : Bool), as = .v a :: as' → bs = .v b :: bs' → kindsOf P fs (i + 1) = some ks' → eqCells ks' as' bs' = some r' →
          ((∃ q, P.underlying f.type = some (.int q)) ∨ P.underlying f.type = some .string ∨ P.underlying f.type = some .bool) → (Op.equalIn (d + 1) f.type a b).run P w = .ok q w →
          (Op.eqFields (d + 1) xs ys (f :: fs)).run P w = .ok (q && r') w := by
        intro a b as' bs' ks' q r' hea heb hks hre hu heq
        subst hea; subst heb
        simp only [List.length_cons] at hla hlb
        have hxl : i < xs.size := by omega
        have hyl : i < ys.size := by omega
        have hx : xs[i]? = some a := by
          have h1 := Array.getElem?_eq_getElem hxl
          have h2 := (ha 0 (.v a) _ rfl h1).v_inv
          rw [h1, h2]
        have hy : ys[i]? = some b := by
          have h1 := Array.getElem?_eq_getElem hyl
          have h2 := (hb 0 (.v b) _ rfl h1).v_inv
          rw [h1, h2]
        have ih := eqFields_run d xs ys w fs (i + 1) ks' as' bs' r' hks hre (fun j c v h1 h2 => ha (j + 1) c v (by simpa using h1) (by rw [show i + (j + 1) = i + 1 + j from by omega]; exact h2))
          (fun j c v h1 h2 => hb (j + 1) c v (by simpa using h1) (by rw [show i + (j + 1) = i + 1 + j from by omega]; exact h2)) (by omega) (by omega)
        simp only [Op.eqFields, hc.1, hc.2, ne_eq, not_false_eq_true, if_true, Sem.run_bind, part_plain hu hx, part_plain hu hy, Result.andThen_ok, heq, Sem.run_ite]
        cases q
        · simp
        · simp [ih]
      split at hk
      · rename_i q ks' hu hks
        simp only [Option.some.injEq] at hk; subst hk
        unfold eqCells at hr
        split at hr <;> (try (simp_all; done))
        rename_i ks0 k a l k' b l' e0
        split at hr
        · rename_i hkk
          subst hkk
          split at hr
          · rename_i r' hr'
            simp only [Option.some.injEq] at hr; subst hr
            simp only [List.cons.injEq, true_and] at e0; subst e0
            exact step _ _ _ _ _ _ _ rfl rfl hks hr' (.inl ⟨q, hu⟩) (run_equalIn_int w d f.type k q a b hu)
          · cases hr
        · cases hr
      · rename_i ks' hu hks
        simp only [Option.some.injEq] at hk; subst hk
        unfold eqCells at hr
        split at hr <;> (try (simp_all; done))
        rename_i ks0 a l b l' e0
        split at hr
        · rename_i r' hr'
          simp only [Option.some.injEq] at hr; subst hr
          simp only [List.cons.injEq, true_and] at e0; subst e0
          exact step _ _ _ _ _ _ _ rfl rfl hks hr' (.inr (.inl hu)) (run_equalIn_string w d f.type a b hu)
        · cases hr
      · rename_i ks' hu hks
        simp only [Option.some.injEq] at hk; subst hk
        unfold eqCells at hr
        split at hr <;> (try (simp_all; done))
        rename_i ks0 a l b l' e0
        split at hr
        · rename_i r' hr'
          simp only [Option.some.injEq] at hr; subst hr
          simp only [List.cons.injEq, true_and] at e0; subst e0
          exact step _ _ _ _ _ _ _ rfl rfl hks hr' (.inr (.inr hu)) (run_equalIn_bool' w d f.type a b hu)
        · cases hr
      · cases hk
    · cases hk

theorem s_eqs (hr : HR C ρ U h w) (ht : Tm C ρ U w t a) {neg : Bool} {ty ty' : TypeId} {fs : Array Field} {ks : List Nat} {x y : Operand} (h1 : P.underlying ty = some (.struct fs)) (hk : kindsOf P fs.toList 0 = some ks)
    (hs : P.stoodInHeld ty = false) (hg : P.eqGuardType P.depth ty = false)
    (ho : o.op = .binOp (if neg then .neq else .eql) ty x y ty') (he : eff nm t h (.eqs neg ks x y) = some e) :
    Run C ρ U h w nm ((execOp a.eval o).run P w) e := by
  simp only [eff] at he
  split at he
  · rename_i as bs hx hy
    obtain ⟨us, hu, hvu⟩ := (ev_ok ht hx).agg_inv
    obtain ⟨vs, hv, hvv⟩ := (ev_ok ht hy).agg_inv
    split at he
    · rename_i r hr'
      simp only [E.ok, Option.some.injEq] at he; subst he
      have hfo : P.fieldsOf ty = fs := by unfold Program.fieldsOf; rw [h1]
      have hrun := eqFields_run (P := P) (C := C) (ρ := ρ) (U := U) 9998 us vs w fs.toList 0 ks as bs r hk hr' (fun j c v h1 h2 => hvu.2 j c v h1 (by simpa using h2)) (fun j c v h1 h2 => hvv.2 j c v h1 (by simpa using h2))
        (by have := hvu.1; omega) (by have := hvv.1; omega)
      have heq : (Op.equalIn 10000 ty (.agg us) (.agg vs)).run P w = .ok r w := by
        rw [run_equalIn_struct w 9999 ty us vs (by rw [hfo]; exact h1) hs, hfo]
        exact hrun
      cases neg
      · simp only [Bool.false_eq_true, if_false] at ho ⊢
        simp only [execOp, ho, hu, hv, Sem.run_bind, run_eqGuard_agg w _ ty x y us vs hg, Result.andThen_ok, run_eql_struct, heq, Sem.run_pure]
        exact .same hr (.p (.v _)) True
      · simp only [if_true] at ho ⊢
        simp only [execOp, ho, hu, hv, Sem.run_bind, run_eqGuard_agg w _ ty x y us vs hg, Result.andThen_ok, run_neq_struct, heq, Sem.run_pure]
        exact .same hr (.p (.v _)) True
    · cases he
  · cases he

/-- A row of the call's own, in a new block. -/
theorem new_row_run (hr : HR C ρ U h w) (hn : ¬ U nm) {el sz n : Nat} {xs : List (List AV)} {cells : Array Value} {r : Result Next} (hsz : cells.size = xs.length * sz) (hn' : n = xs.length)
    (hel : ∀ (k : Nat) (x : List AV), xs[k]? = some x → x.length = sz)
    (hrel : ∀ (k : Nat) (x : List AV) (j : Nat) (c : AV), xs[k]? = some x → x[j]? = some c → ∃ q, cells[k * sz + j]? = some q ∧ q.oneCell' = true ∧ VP w (okc C ρ w) c q)
    (hrun : r = .ok (.value (.slice (some ⟨w.heap.size, 0, none⟩) n n)) (w.alloc (.cells cells el))) (p : Prop) : Run C ρ U h w nm r ⟨p, .own nm sz 0 n, [(nm, .row el sz xs)]⟩ := by
  subst hn'
  have hm := moved_alloc (C := C) (ρ := ρ) (U := U) (h := h) hr hn (.cells cells el) (l := .at w.heap.size 0 (xs.length * sz)) (.inr ⟨0, _, rfl⟩)
  refine Run.moved hr hm (fun ⟨cs, hcs⟩ => absurd (hr.hp _ _ hcs).1 hn) ?_ (.inl hrun) (.own (.inr rfl) ?_) (.inr rfl) p
  · refine .inr ⟨w.heap.size, 0, xs.length * sz, cells, rfl, heap_alloc_new w _, by omega, Nat.le_refl _, hel, fun k x j c hk hj => ?_⟩
    obtain ⟨q, h1, h2, h3⟩ := hrel k x j c hk hj
    exact ⟨q, by rw [Nat.zero_add]; exact h1, h2, hm.vp h3⟩
  · simp only [up, if_true]
    exact ⟨⟨_, _, _, rfl⟩, .inr ⟨xs.length, Nat.le_refl _, by simp, by simp⟩⟩

theorem zeros_row {ok : Nat → Prop} {zs : List Value} {sz n : Nat} {cells : Array Value} (hz : zs.length = sz) (hone : zs.all Value.oneCell' = true)
    (hc : ∀ k j, k < n → j < sz → cells[k * sz + j]? = zs[j]?) : ∀ (k : Nat) (x : List AV) (j : Nat) (c : AV), (List.replicate n (zs.map AV.v))[k]? = some x → x[j]? = some c → ∃ q, cells[k * sz + j]? = some q ∧ q.oneCell' = true ∧ VP w ok c q := by
  intro k x j c hk hj
  rw [List.getElem?_replicate] at hk
  split at hk
  · rename_i hkn
    cases hk
    rw [List.getElem?_map, Option.map_eq_some_iff] at hj
    obtain ⟨q, hq, rfl⟩ := hj
    have hjl : j < sz := by rw [← hz]; exact (List.getElem?_eq_some_iff.1 hq).1
    exact ⟨q, by rw [hc k j hkn hjl]; exact hq, List.all_eq_true.1 hone q (List.mem_iff_getElem?.2 ⟨j, hq⟩), .v q⟩
  · cases hk

theorem madeCells_get {z : Array Value} {sz n k j : Nat} (hz : z.size = sz) (hk : k < n) (hj : j < sz) : (madeCells z (n * sz))[k * sz + j]? = z.toList[j]? := by
  have hlt : k * sz + j < n * sz := by
    have : (k + 1) * sz ≤ n * sz := Nat.mul_le_mul_right _ hk
    rw [Nat.add_mul, Nat.one_mul] at this
    omega
  have hjz : j < z.size := by omega
  have h1 := (divmod_lt (k := k) hj).2
  simp only [madeCells, Array.getElem?_map]
  rw [Array.getElem?_range, if_pos hlt]
  simp only [Option.map_some, hz, h1, Array.getElem?_toList]
  rw [Array.getElem?_eq_getElem hjz, getElem!_pos z j hjz]

theorem s_mkslice (hr : HR C ρ U h w) (ht : Tm C ρ U w t a) (hn : ¬ U nm) {ty el sz by_ : Nat} {zs : List Value} {l c : Operand} (hE : El P ty el sz by_ zs) (hone : zs.all Value.oneCell' = true)
    (ho : o.op = .makeSlice ty l c) (he : eff nm t h (.mkslice el sz by_ zs l c) = some e) (hp : e.pre) : Run C ρ U h w nm ((execOp a.eval o).run P w) e := by
  obtain ⟨i, z, hi, hiz, his, hib, hzc, hzl⟩ := hE.info
  simp only [eff] at he
  split at he
  · rename_i k n k' m hl hc
    have e1 := (ev_ok ht hl).v_inv
    have e2 := (ev_ok ht hc).v_inv
    simp only [Option.some.injEq] at he; subst he
    obtain ⟨h0, rfl, hb, h63⟩ := hp
    have hrun := run_make (P := P) w ty el i z hE.und hi hiz k k' n n h0 (Int.le_refl _) (by rw [hib, Int.mul_comm]; omega) h63
    refine new_row_run (cells := madeCells z.cells (n.toNat * i.size)) hr hn (by rw [size_madeCells, his]; simp) (by simp) (fun k x hx => ?_) (zeros_row hE.zl hone (fun k j hk hj => ?_)) ?_ _
    · rw [List.getElem?_replicate] at hx
      split at hx
      · cases hx; simp [hE.zl]
      · cases hx
    · rw [his, madeCells_get hzc hk hj, hzl]
    · simp only [execOp, ho, e1, e2, Sem.run_bind, hrun, Result.andThen_ok, Sem.run_pure]
  · cases he

theorem s_mkmap (hr : HR C ρ U h w) (hn : ¬ U nm) {ty : TypeId} (ho : o.op = .makeMap ty none) (he : eff nm t h .mkmap = some e) : Run C ρ U h w nm ((execOp a.eval o).run P w) e := by
  simp only [eff, Option.some.injEq] at he; subst he
  have hm : Moved C ρ U h w nm (.at w.heap.size 0 0) (w.alloc (.map #[] 0)) := moved_alloc hr hn _ (.inr ⟨0, 0, rfl⟩)
  refine Run.moved (ob := .map []) (v := .map (some w.heap.size)) hr hm (fun ⟨cs, hcs⟩ => absurd (hr.hp _ _ hcs).1 hn) ⟨w.heap.size, #[], 0, rfl, heap_alloc_new w _, rfl, by simp⟩ (.inl ?_) (.mp _ (.inr rfl) fun g o n hl => ?_) (.inr rfl) True
  · simp [execOp, ho, Instr.makeMap]
  · simp only [up, if_true] at hl
    cases hl; rfl

theorem findNow_ok {ok : Nat → Prop} (kk : IntKind) (q : IntKind) (n : Int) : ∀ (es : List (Value × AV)) (ents : List MapEntry) (i0 : Nat) (r : Option AV), lookM es q n = some r → es.length = ents.length →
    (∀ (i : Nat) (k : Value) (c : AV) (m : MapEntry), es[i]? = some (k, c) → ents[i]? = some m → m.key = k ∧ VP w ok c m.val) →
    (r = none ∧ Instr.findNow (.int kk) (.int q n) ents i0 = some none) ∨ (∃ x i m, r = some x ∧ es[i]? = some (.int q n, x) ∧ ents[i]? = some m ∧ m.key = .int q n ∧ VP w ok x m.val ∧ Instr.findNow (.int kk) (.int q n) ents i0 = some (some (i0 + i, m.val)))
  | [], [], i0, r, hl, _, _ => by simp only [lookM, Option.some.injEq] at hl; subst hl; exact .inl ⟨rfl, rfl⟩
  | (k, x) :: es, m :: ents, i0, r, hl, hlen, hrel => by
    obtain ⟨hk, hx⟩ := hrel 0 k x m rfl rfl
    cases k with
    | int q' n' =>
      simp only [lookM] at hl
      split at hl
      · rename_i hq
        subst hq
        split at hl
        · rename_i hnn
          subst hnn
          simp only [Option.some.injEq] at hl; subst hl
          refine .inr ⟨x, 0, m, rfl, rfl, rfl, hk, hx, ?_⟩
          simp [Instr.findNow, hk, Instr.sameNow]
        · rename_i hnn
          have hb : (n == n') = false := by simp [hnn]
          rcases findNow_ok kk q n es ents (i0 + 1) r hl (by simpa using hlen) (fun i k c m h1 h2 => hrel (i + 1) k c m (by simpa using h1) (by simpa using h2)) with ⟨h1, h2⟩ | ⟨y, i, m', h1, h2, h3, h4, h5, h6⟩
          · exact .inl ⟨h1, by simp [Instr.findNow, hk, Instr.sameNow, hb, h2]⟩
          · refine .inr ⟨y, i + 1, m', h1, by simpa using h2, by simpa using h3, h4, h5, ?_⟩
            simp [Instr.findNow, hk, Instr.sameNow, hb, h6]
            omega
      · cases hl
    | _ => simp [lookM] at hl
  | [], _ :: _, _, _, _, hlen, _ => by simp at hlen
  | _ :: _, [], _, _, _, hlen, _ => by simp at hlen

theorem map_at (hr : HR C ρ U h w) {b : Nat} {es : List (Value × AV)} (hb : get h b = some (.map es)) : ∃ g ents clock, ρ b = .at g 0 0 ∧ w.heap[g]? = some (.map ents clock) ∧ ents.size = es.length ∧
      ∀ (i : Nat) (k : Value) (c : AV) (m : MapEntry), es[i]? = some (k, c) → ents[i]? = some m → m.key = k ∧ VP w (okc C ρ w) c m.val := (hr.hp b _ hb).2

theorem run_checkKeyN {kt : TypeId} {q : IntKind} {kk : IntKind} {n : Int} (hk : P.underlying kt = some (.int kk)) (b : Bool) (N : Nat) (w : World) : (Instr.checkKey b (N + 1) kt (.int q n)).run P w = .ok () w := by
  simp [Instr.checkKey, run_underlying hk]
theorem run_checkKey {kt : TypeId} {q : IntKind} {kk : IntKind} {n : Int} (hk : P.underlying kt = some (.int kk)) (b : Bool) (w : World) : (Instr.checkKey b 10000 kt (.int q n)).run P w = .ok () w := run_checkKeyN hk b 9999 w

theorem run_getObj {g : Nat} {ents : Array MapEntry} {clock : Nat} (hg : w.heap[g]? = some (.map ents clock)) : (getObj g).run P w = .ok (.map ents clock) w := by
  simp [getObj, Sem.run, hg]

theorem s_look (hr : HR C ρ U h w) (ht : Tm C ρ U w t a) {ty kt et : TypeId} {kk : IntKind} {z : Value} {m k : Operand} (h1 : P.underlying ty = some (.map kt et)) (h2 : P.underlying kt = some (.int kk))
    (hza : ∃ i, P.info? et = some i ∧ i.zero = some z) (ho : o.op = .lookup ty m k false) (he : eff nm t h (.look z m k) = some e) : Run C ρ U h w nm ((execOp a.eval o).run P w) e := by
  simp only [eff] at he
  split at he
  · rename_i b q n hm hk
    obtain ⟨hu, r, hmr, hmg⟩ := (ev_ok ht hm).mp_inv
    have hkv := (ev_ok ht hk).v_inv
    split at he
    · rename_i es hb
      split at he
      · rename_i r' hl
        simp only [E.ok, Option.some.injEq] at he; subst he
        obtain ⟨g, ents, clock, hloc, hg, hsz, hrel⟩ := map_at hr hb
        have := hmg g 0 0 hloc
        subst this
        have hF := findNow_ok (w := w) (ok := okc C ρ w) kk q n es ents.toList 0 r' hl (by simpa using hsz.symm) (fun i k c m h1 h2 => hrel i k c m h1 (by simpa using h2))
        obtain ⟨i, hi, hiz⟩ := hza
        have pre : ∀ res, Instr.findNow (.int kk) (.int q n) ents.toList 0 = some res → (execOp a.eval o).run P w = .ok (.value (match res with | some (_, v) => v | none => z)) w := by
          intro res hres
          simp only [execOp, ho, hmr, hkv, Instr.lookup, Sem.run_bind, run_underlying h1, Result.andThen_ok, run_getObj hg, Sem.run_pure, run_checkKey h2, Instr.findKey, run_underlying h2, hres]
          cases res with
          | none => simp [zeroValue, typeInfo, hi, hiz]
          | some p => simp
        rcases hF with ⟨rfl, hf⟩ | ⟨x, i', m', rfl, _, _, _, hvp, hf⟩
        · rw [pre _ hf]
          exact .same hr (.p (.v _)) True
        · rw [pre _ hf]
          exact .same hr (.p hvp) True
      · cases he
    · cases he
  · cases he

theorem putM_ok {ok : Nat → Prop} (kk q : IntKind) (n : Int) (y : AV) (v : Value) (hy : VP w ok y v) : ∀ (es : List (Value × AV)) (ents : List MapEntry) (i0 : Nat) (es' : List (Value × AV)), putM es q n y = some es' → es.length = ents.length →
    (∀ (i : Nat) (k : Value) (c : AV) (m : MapEntry), es[i]? = some (k, c) → ents[i]? = some m → m.key = k ∧ VP w ok c m.val) →
    (es' = es ++ [(.int q n, y)] ∧ Instr.findNow (.int kk) (.int q n) ents i0 = some none) ∨
    (∃ i m, i < es.length ∧ es' = es.set i (.int q n, y) ∧ ents[i]? = some m ∧ m.key = .int q n ∧ Instr.findNow (.int kk) (.int q n) ents i0 = some (some (i0 + i, m.val)))
  | [], [], i0, es', hl, _, _ => by simp only [putM, Option.some.injEq] at hl; subst hl; exact .inl ⟨rfl, rfl⟩
  | (k, x) :: es, m :: ents, i0, es', hl, hlen, hrel => by
    obtain ⟨hk, hx⟩ := hrel 0 k x m rfl rfl
    cases k with
    | int q' n' =>
      simp only [putM] at hl
      split at hl
      · rename_i hq
        subst hq
        split at hl
        · rename_i hnn
          subst hnn
          simp only [Option.some.injEq] at hl; subst hl
          refine .inr ⟨0, m, by simp, rfl, rfl, hk, ?_⟩
          simp [Instr.findNow, hk, Instr.sameNow]
        · rename_i hnn
          split at hl
          · rename_i r hr
            simp only [Option.some.injEq] at hl; subst hl
            have hb : (n == n') = false := by simp [hnn]
            rcases putM_ok kk q n y v hy es ents (i0 + 1) r hr (by simpa using hlen) (fun i k c m h1 h2 => hrel (i + 1) k c m (by simpa using h1) (by simpa using h2)) with ⟨h1, h2⟩ | ⟨i, m', h1, h2, h3, h4, h5⟩
            · exact .inl ⟨by rw [h1]; rfl, by simp [Instr.findNow, hk, Instr.sameNow, hb, h2]⟩
            · refine .inr ⟨i + 1, m', by simp; omega, by rw [h2]; rfl, by simpa using h3, h4, ?_⟩
              simp [Instr.findNow, hk, Instr.sameNow, hb, h5]
              omega
          · cases hl
      · cases hl
    | _ => simp [putM] at hl
  | [], _ :: _, _, _, _, hlen, _ => by simp at hlen
  | _ :: _, [], _, _, _, hlen, _ => by simp at hlen

theorem s_mput (hr : HR C ρ U h w) (ht : Tm C ρ U w t a) {ty kt et : TypeId} {kk : IntKind} {m k x : Operand} (h1 : P.underlying ty = some (.map kt et)) (h2 : P.underlying kt = some (.int kk))
    (ho : o.op = .mapUpdate ty m k x) (he : eff nm t h (.mput m k x) = some e) : Run C ρ U h w nm ((execOp a.eval o).run P w) e := by
  simp only [eff] at he
  split at he
  · rename_i b q n y hm hk hx
    obtain ⟨hu, r, hmr, hmg⟩ := (ev_ok ht hm).mp_inv
    have hkv := (ev_ok ht hk).v_inv
    have hxv := ev_ok ht hx
    split at he
    · rename_i es hb
      split at he
      · rename_i hpure
        split at he
        · rename_i es' hput
          simp only [Option.some.injEq] at he; subst he
          obtain ⟨g, ents, clock, hloc, hg, hsz, hrel⟩ := map_at hr hb
          have := hmg g 0 0 hloc
          subst this
          have hvp := VP.of_pure_aux hxv hpure
          have hF := putM_ok (w := w) (ok := okc C ρ w) kk q n y (a.eval x) hvp es ents.toList 0 es' hput (by simpa using hsz.symm) (fun i k c m h1 h2 => hrel i k c m h1 (by simpa using h2))
          have hglt : g < w.heap.size := (hr.ownl g ⟨b, 0, 0, hloc⟩).2
          have set : ∀ ents' clock', (setObj g (.map ents' clock')).run P w = .ok () { w with heap := w.heap.setIfInBounds g (.map ents' clock') } := by
            intro ents' clock'
            simp [setObj, Sem.run, hg]
          have moved : ∀ ents' clock', Moved C ρ U h w b (.at g 0 0) { w with heap := w.heap.setIfInBounds g (.map ents' clock') } := by
            intro ents' clock'
            refine ⟨rfl, rfl, rfl, by simp, fun k' hk' hkb => ?_, .inl ⟨hu, hloc.symm⟩⟩
            have hne : ¬ g = k' := fun e => hkb 0 0 (by rw [← e]; exact hloc)
            simp [Array.getElem?_setIfInBounds, hne]
          rcases hF with ⟨rfl, hf⟩ | ⟨i, m', hi, rfl, hm', hmk, hf⟩
          · have hm1 := moved (ents.push { key := .int q n, val := a.eval x, born := clock }) (clock + 1)
            refine Run.moved (ob := .map (es ++ [(.int q n, y)])) hr hm1 (fun ⟨cs, hcs⟩ => by rw [hb] at hcs; cases hcs) ⟨g, ents.push { key := .int q n, val := a.eval x, born := clock }, clock + 1, rfl, by simp [hglt], by simp [hsz], fun i k c m hi hm => ?_⟩ (.inr ⟨rfl, ?_⟩) (.p (.v _)) (.inl hu) True
            · rw [Array.getElem?_push] at hm
              rw [List.getElem?_append] at hi
              split at hm
              · rename_i heq
                rw [if_neg (by omega)] at hi
                have h0 : i - es.length = 0 := by omega
                rw [h0] at hi
                simp at hi hm
                obtain ⟨rfl, rfl⟩ := hi
                subst hm
                exact ⟨rfl, hm1.vp hvp⟩
              · rename_i hne
                have hlt := (Array.getElem?_eq_some_iff.1 hm).1
                rw [if_pos (by omega)] at hi
                exact ⟨(hrel i k c m hi hm).1, hm1.vp (hrel i k c m hi hm).2⟩
            · simp only [execOp, ho, hmr, hkv, Instr.mapUpdate, Sem.run_bind, run_underlying h1, Result.andThen_ok, run_getObj hg, run_checkKey h2, Instr.findKey, run_underlying h2, hf, Sem.run_pure, set]
          · have hm1 := moved (ents.modify i fun e => { e with key := .int q n, val := a.eval x }) clock
            have hm'' : ents[i]? = some m' := by simpa using hm'
            refine Run.moved (ob := .map (es.set i (.int q n, y))) hr hm1 (fun ⟨cs, hcs⟩ => by rw [hb] at hcs; cases hcs) ⟨g, ents.modify i fun e => { e with key := .int q n, val := a.eval x }, clock, rfl, by simp [hglt], by simp [hsz], fun j k c m hj hm => ?_⟩ (.inr ⟨rfl, ?_⟩) (.p (.v _)) (.inl hu) True
            · rw [Array.getElem?_modify] at hm
              by_cases hji : i = j
              · subst hji
                rw [if_pos rfl, hm''] at hm
                rw [List.getElem?_set_self hi] at hj
                simp at hj hm
                obtain ⟨rfl, rfl⟩ := hj
                subst hm
                exact ⟨rfl, hm1.vp hvp⟩
              · rw [if_neg hji] at hm
                rw [List.getElem?_set_ne hji] at hj
                exact ⟨(hrel j k c m hj hm).1, hm1.vp (hrel j k c m hj hm).2⟩
            · have hkeep : (Instr.keyThatStays (.int q n) (.int q n)).run P w = .ok (.int q n) w := by
                simp [Instr.keyThatStays, Instr.sameBits]
              simp only [execOp, ho, hmr, hkv, Instr.mapUpdate, Sem.run_bind, run_underlying h1, Result.andThen_ok, run_getObj hg, run_checkKey h2, Instr.findKey, run_underlying h2, hf, Sem.run_pure, Nat.zero_add, hm'', Option.map_some, Option.getD_some, hmk, hkeep, set]
        · cases he
      · cases he
    · cases he
  · cases he

end
end Go.Eng
