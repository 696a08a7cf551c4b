/-
  The engine, part 3m: bytes to strings, min and max, cap, clear, append of zeros; and all operations together.
  No condition: lemmas.
-/
import Derived.Test.YteonhcjaekodkaaEng3l
set_option linter.all false
namespace Go.Eng
open Go
section
variable {P : Program} {C : Ctx} {ρ : Nat → Loc} {U : Nat → Prop} {h : List (Nat × Ob)} {w : World} {nm : Nat} {t : List (Nat × AV)} {a : Act} {o : Oper} {e : E}

theorem bytesOfL_ok : ∀ (xs : List (List AV)) (l : List UInt8), bytesOfL xs = some l → ∃ ns : List Int, xs = ns.map (fun n => [.v (.int .u8 n)]) ∧ l = ns.map fun n => n.toNat.toUInt8
  | [], l, hl => by simp only [bytesOfL, Option.some.injEq] at hl; subst hl; exact ⟨[], rfl, rfl⟩
  | x :: xs, l, hl => by
    unfold bytesOfL at hl
    split at hl
    · rename_i e; cases e
    · rename_i n l' e
      simp only [List.cons.injEq] at e
      obtain ⟨rfl, rfl⟩ := e
      split at hl
      · rename_i r hr
        simp only [Option.some.injEq] at hl; subst hl
        obtain ⟨ns, h1, h2⟩ := bytesOfL_ok _ r hr
        exact ⟨n :: ns, by simp [h1], by simp [h2]⟩
      · cases hl
    · cases hl

theorem foldl_push : ∀ (ns : List Int) (s : ByteArray), ns.foldl (fun r n => r.push (UInt8.ofNat n.toNat)) s = ⟨(s.data.toList ++ ns.map fun n => n.toNat.toUInt8).toArray⟩
  | [], s => by simp
  | n :: ns, s => by
    rw [List.foldl_cons, foldl_push ns]
    simp [ByteArray.push]

theorem s_b2s (hr : HR C ρ U h w) (ht : Tm C ρ U w t a) {src dst el : TypeId} {x : Operand} (h1 : P.underlying src = some (.slice el)) (h2 : P.underlying el = some (.int .u8)) (h3 : P.underlying dst = some .string)
    (ho : o.op = .convert src dst x) (he : eff nm t h (.b2s x) = some e) (hp : e.pre) : Run C ρ U h w nm ((execOp a.eval o).run P w) e := by
  simp only [eff] at he
  split at he
  · rename_i p xs hc
    split at he
    · rename_i s hs
      simp only [Option.some.injEq] at he; subst he
      cases hx : ev t x with
      | none => rw [hx] at hc; simp [contentsN] at hc
      | some y =>
        rw [hx] at hc
        obtain ⟨vals, hR⟩ := contents_reads hr (Nat.zero_lt_one) (ev_ok ht hx) hc hp
        unfold bytesOf at hs
        split at hs
        · rename_i l hl
          simp only [Option.some.injEq] at hs; subst hs
          obtain ⟨ns, hxs, hln⟩ := bytesOfL_ok _ _ hl
          have hvals : vals = ns.map (Value.int .u8) := by
            apply List.ext_getElem?
            intro k
            have hlen : vals.length = ns.length := by rw [hR.len, hxs]; simp
            by_cases hk : k < ns.length
            · have hxk : xs[k]? = some [.v (.int .u8 ns[k])] := by rw [hxs]; simp [hk]
              obtain ⟨v, hv, hvp⟩ := hR.rel k _ 0 (.v (.int .u8 ns[k])) hxk rfl
              cases hvp
              simp only [Nat.mul_one, Nat.add_zero] at hv
              rw [hv]
              simp [hk]
            · rw [List.getElem?_eq_none (by omega), List.getElem?_eq_none (by simp; omega)]
          obtain ⟨ad, cap, hxe, hnil, hcell⟩ := hR.form
          have hrun : (convert src dst (a.eval x)).run P w = .ok (.string ⟨l.toArray⟩) w := by
            rw [hxe, run_convert_bytes_string w src dst el ad xs.length cap h1 h2 h3]
            cases ad with
            | none =>
              have := hnil rfl
              rw [this] at hxs
              have hns : ns = [] := by cases ns with | nil => rfl | cons _ _ => simp at hxs
              subst hns
              rw [hln]
              simp [Conv.bytesToString]
              rfl
            | some A =>
              have hl' := run_loadCells_list (P := P) w A vals (fun j v hj => hcell A rfl j v hj)
              rw [hR.len, Nat.mul_one] at hl'
              rw [hvals] at hl'
              rw [run_bytesToString w A xs.length cap ns hl', foldl_push, hln]
              simp
          simp only [execOp, ho, Sem.run_bind, hrun, Result.andThen_ok, Sem.run_pure]
          exact .same hr (.p (.v _)) _
        · cases hs
    · cases he
  · cases he

theorem s_minmax (hr : HR C ρ U h w) (ht : Tm C ρ U w t a) {c : Call} {mx : Bool} (hc : c.callee = .builtin (if mx then .max else .min)) (ho : o.op = .call c) (he : eff nm t h (.minmax mx c.args.toList) = some e) :
    Run C ρ U h w nm ((execOp a.eval o).run P w) e := by
  simp only [eff] at he
  split at he
  · rename_i k x k' y hxs
    split at he
    · rename_i hk
      subst hk
      simp only [E.ok, Option.some.injEq] at he; subst he
      have hv := evL_ok ht hxs
      have hl : (c.args.toList.map a.eval).length = 2 := by have := hv.1; simpa using this.symm
      have e2 : ∃ u v, c.args.toList.map a.eval = [u, v] := by
        match c.args.toList.map a.eval, hl with
        | [u, v], _ => exact ⟨u, v, rfl⟩
      obtain ⟨u, v, e3⟩ := e2
      have eu : u = .int k x := (hv.2 0 _ u rfl (by rw [e3]; rfl)).v_inv
      have ev' : v = .int k y := (hv.2 1 _ v rfl (by rw [e3]; rfl)).v_inv
      subst eu; subst ev'
      have e4 : (c.args.map a.eval).toList = [.int k x, .int k y] := by rw [← e3]; simp
      cases mx
      · simp only [Bool.false_eq_true, if_false] at hc ⊢
        have hrun : (execOp a.eval o).run P w = .ok (.value (.int k (if y < x then y else x))) w := by
          simp only [execOp, ho, resolve, hc, invoke, builtin, Sem.run_bind, Sem.run_pure, Result.andThen_ok, Builtin.min_, e4]
          simp [Builtin.min2]
        rw [hrun, show (min x y) = (if y < x then y else x) from by rw [Int.min_def]; split <;> split <;> omega]
        exact .same hr (.p (.v _)) True
      · simp only [if_true] at hc ⊢
        have hrun : (execOp a.eval o).run P w = .ok (.value (.int k (if y > x then y else x))) w := by
          simp only [execOp, ho, resolve, hc, invoke, builtin, Sem.run_bind, Sem.run_pure, Result.andThen_ok, Builtin.max_, e4]
          simp [Builtin.max2]
        rw [hrun, show (max x y) = (if y > x then y else x) from by rw [Int.max_def]; split <;> split <;> omega]
        exact .same hr (.p (.v _)) True
    · cases he
  · cases he

theorem s_cap (hr : HR C ρ U h w) (ht : Tm C ρ U w t a) {ty el : TypeId} {x : Operand} {c : Call} (h1 : P.underlying ty = some (.slice el))
    (hc : c.callee = .builtin .cap) (h2 : c.argTypes[0]? = some ty) (h3 : c.args[0]? = some x) (ho : o.op = .call c) (he : eff nm t h (.cap x) = some e) :
    Run C ρ U h w nm ((execOp a.eval o).run P w) e := by
  simp only [eff] at he
  split at he
  · rename_i n q hx
    have hv := (ev_ok ht hx).v_inv
    simp only [E.ok, Option.some.injEq] at he; subst he
    have h4 : (c.args.map a.eval)[0]? = some (a.eval x) := by simp [h3]
    have hrun : (Builtin.cap_ c.argTypes o.type (c.args.map a.eval)).run P w = .ok (.int .i64 q) w := by
      simp [Builtin.cap_, h2, h3, hv, run_underlying h1, goInt]
    simp only [execOp, ho, resolve, hc, invoke, builtin, Sem.run_bind, Sem.run_pure, Result.andThen_ok, hrun]
    exact .same hr (.p (.v _)) True
  · cases he

theorem zeroCells_get {z : Array Value} {sz n k j : Nat} (hz : z.size = sz) (hk : k < n) (hj : j < sz) : (Builtin.zeroCells z n)[k * sz + j]? = z.toList[j]? := by
  have := madeCells_get hz hk hj
  unfold Builtin.zeroCells
  unfold madeCells at this
  rw [hz]
  rw [hz] at this
  exact this

theorem s_appz (hr : HR C ρ U h w) (ht : Tm C ρ U w t a) (hn : ¬ U nm) {ty ti el sz by_ : Nat} {q : IntKind} {zs : List Value} {s x : Operand} {c : Call} (hE : El P ty el sz by_ zs) (hone : zs.all Value.oneCell' = true) (hti : P.underlying ti = some (.int q))
    (hc : c.callee = .builtin .append) (h2 : c.argTypes = #[ty, ti]) (h3 : c.args = #[s, x]) (ho : o.op = .call c) (he : eff nm t h (.appz el sz by_ zs s x) = some e) (hp : e.pre) :
    Run C ρ U h w nm ((execOp a.eval o).run P w) e := by
  obtain ⟨i, z, hi, hiz, his, hib, hzc, hzl⟩ := hE.info
  have hsz := hE.pos
  simp only [eff] at he
  split at he
  · rename_i k n hs hx
    have e1 := (ev_ok ht hs).v_inv
    have e2 := (ev_ok ht hx).v_inv
    simp only [Option.some.injEq] at he; subst he
    obtain ⟨h0, hb, h63⟩ := hp
    have hnn : (n.toNat : Int) = n := by omega
    have hbn : n.toNat * by_ ≤ 140737488355328 := by
      have : ((n.toNat * by_ : Nat) : Int) ≤ 140737488355328 := by rw [Int.natCast_mul, hnn]; exact hb
      omega
    have hcapge := grownCap_ge w n.toNat 0 el
    have hw : IntKind.i64.wrap n = n := by rw [IntKind.wrap_i64]; omega
    have c1 : ¬ n < 0 := by omega
    have c2 : ¬ (281474976710656 < n * (by_ : Int)) := by omega
    have c3 : ¬ n.toNat = 0 := by omega
    have c3' : ¬ n ≤ 0 := by omega
    have c4 : ¬ (9223372036854775807 < max n 0) := by omega
    have c5 : ¬ (281474976710656 < Builtin.nextslicecap n.toNat 0 * by_) := by rw [nextslicecap_zero (by omega)]; omega
    have c6 : ¬ (n.toNat * sz = 0) := by
      have := Nat.mul_pos (show 0 < n.toNat by omega) hsz
      omega
    have hrun : (Builtin.append_ #[ty, ti] o.type #[a.eval s, a.eval x]).run P w =
        .ok (.slice (some ⟨w.heap.size, 0, none⟩) n.toNat (grownCap w n.toNat 0 el)) (w.drew.alloc (.cells (Builtin.zeroCells z.cells n.toNat ++ Builtin.zeroCells z.cells (grownCap w n.toNat 0 el - n.toNat)) el)) := by
      rw [e1, e2]
      simp [Builtin.append_, run_underlying hE.und, run_underlying hti, sizeOf, typeInfo, zeroValue, hi, hiz, asInt, asIntOf, hw, c1, c2, c3', c4, c5, c6, his, hib, Question.forced, run_firstCells_none, newRow, grownCap]
    have hm : Moved C ρ U h w nm (.at w.heap.size 0 (grownCap w n.toNat 0 el * sz)) (w.drew.alloc (.cells (Builtin.zeroCells z.cells n.toNat ++ Builtin.zeroCells z.cells (grownCap w n.toNat 0 el - n.toNat)) el)) :=
      ⟨rfl, rfl, rfl, by simp, fun g hg _ => Go.RowKit.Below.heap_alloc w.drew _ g hg, .inr (.inr ⟨hn, .inr ⟨w.heap.size, 0, _, rfl, Nat.le_refl _, by simp⟩⟩)⟩
    have hz := zeros_row (w := w.drew.alloc (.cells (Builtin.zeroCells z.cells n.toNat ++ Builtin.zeroCells z.cells (grownCap w n.toNat 0 el - n.toNat)) el)) (ok := okc C (up ρ nm (.at w.heap.size 0 (grownCap w n.toNat 0 el * sz))) (w.drew.alloc (.cells (Builtin.zeroCells z.cells n.toNat ++ Builtin.zeroCells z.cells (grownCap w n.toNat 0 el - n.toNat)) el)))
      (n := n.toNat) (cells := Builtin.zeroCells z.cells n.toNat) hE.zl hone (fun k j hk hj => by rw [zeroCells_get hzc hk hj, hzl])
    have hnew := new_row (w' := w.drew.alloc (.cells (Builtin.zeroCells z.cells n.toNat ++ Builtin.zeroCells z.cells (grownCap w n.toNat 0 el - n.toNat)) el)) (ok := okc C (up ρ nm (.at w.heap.size 0 (grownCap w n.toNat 0 el * sz))) (w.drew.alloc (.cells (Builtin.zeroCells z.cells n.toNat ++ Builtin.zeroCells z.cells (grownCap w n.toNat 0 el - n.toNat)) el)))
      (ρ' := up ρ nm (.at w.heap.size 0 (grownCap w n.toNat 0 el * sz))) (U' := addU U nm) (el := el) (sz := sz) (g := w.heap.size) (m := n.toNat) (cap := grownCap w n.toNat 0 el) (xs := List.replicate n.toNat (zs.map AV.v)) (vals := (Builtin.zeroCells z.cells n.toNat).toList) (rest := (Builtin.zeroCells z.cells (grownCap w n.toNat 0 el - n.toNat)).toList)
      (by rw [show ((Builtin.zeroCells z.cells n.toNat).toList ++ (Builtin.zeroCells z.cells (grownCap w n.toNat 0 el - n.toNat)).toList).toArray = Builtin.zeroCells z.cells n.toNat ++ Builtin.zeroCells z.cells (grownCap w n.toNat 0 el - n.toNat) from by apply Array.ext'; simp]; exact heap_alloc_new w.drew _)
      (by rw [zeros_len, hzc]; simp) (fun k x hk => by
        rw [List.getElem?_replicate] at hk
        split at hk
        · cases hk; simp [hE.zl]
        · cases hk)
      (fun v hv => by
        obtain ⟨j, hj, rfl⟩ := List.mem_iff_getElem.1 hv
        have hj' : j < n.toNat * sz := by rw [← hzc, ← zeros_len]; exact hj
        have d1 : j / sz < n.toNat := Nat.div_lt_of_lt_mul (by rw [Nat.mul_comm]; exact hj')
        have d2 : j % sz < sz := Nat.mod_lt _ hsz
        have hg := zeroCells_get hzc d1 d2
        rw [show j / sz * sz + j % sz = j from by rw [Nat.mul_comm]; exact Nat.div_add_mod j sz, hzl] at hg
        rw [← Array.getElem?_toList, List.getElem?_eq_getElem hj] at hg
        exact List.all_eq_true.1 hone _ (List.mem_iff_getElem?.2 ⟨_, hg.symm⟩))
      (fun k x j c hk hj => (hz k x j c hk hj).imp fun v hv => ⟨by rw [Array.getElem?_toList]; exact hv.1, hv.2.2⟩)
      (by rw [List.length_append, zeros_len, zeros_len, hzc, ← Nat.add_mul]; congr 1; omega) (by simp) hcapge
    refine Run.moved (v := .slice (some ⟨w.heap.size, 0, none⟩) n.toNat (grownCap w n.toNat 0 el)) hr hm (fun ⟨cs, hcs⟩ => absurd (hr.hp _ _ hcs).1 hn) hnew.1 (.inl ?_) (.own (.inr rfl) ?_) (.inr rfl) _
    · simp only [execOp, ho, resolve, hc, h2, h3, invoke, builtin, Sem.run_bind, Sem.run_pure, Result.andThen_ok, List.map_toArray, List.map_cons, List.map_nil, hrun]
    · simp only [up, if_true]
      exact hnew.2
  · cases he

theorem s_clr (hr : HR C ρ U h w) (ht : Tm C ρ U w t a) {ty el sz : Nat} {zs : List Value} {x : Operand} {c : Call} (hu : P.underlying ty = some (.slice el)) (hz : zerosOf P el = some zs) (hs : sizeP P el = some sz)
    (hzl : zs.length = sz) (hone : zs.all Value.oneCell' = true)
    (hc : c.callee = .builtin .clear) (h2 : c.argTypes[0]? = some ty) (h3 : c.args[0]? = some x) (ho : o.op = .call c) (he : eff nm t h (.clr sz zs x) = some e) (hp : e.pre) :
    Run C ρ U h w nm ((execOp a.eval o).run P w) e := by
  obtain ⟨i, z, hi, hiz, hzz⟩ := zerosOf_info hz
  have hzc : z.cells.size = sz := by rw [← Array.length_toList, hzz]; exact hzl
  have run1 : ∀ v w', (Builtin.clear_ c.argTypes o.type (c.args.map a.eval)).run P w = .ok v w' → (execOp a.eval o).run P w = .ok (.value v) w' := by
    intro v w' hv
    simp only [execOp, ho, resolve, hc, invoke, builtin, Sem.run_bind, Sem.run_pure, Result.andThen_ok, hv]
  have h4 : (c.args.map a.eval)[0]? = some (a.eval x) := by simp [h3]
  simp only [eff] at he
  split at he
  · rename_i b sz' off len hx
    split at he
    · rename_i ety s2 xs hb
      split at he
      · rename_i hss
        obtain ⟨e1, e2⟩ := hss
        subst e1; subst e2
        simp only [Option.some.injEq] at he; subst he
        obtain ⟨hub, _, hown⟩ := (ev_ok ht hx).own_inv
        have hrow := (hr.hp b _ hb).2
        -- nothing to clear
        have nothing : len = 0 → ∀ ad cap, a.eval x = .slice ad 0 cap → ∀ p, Run C ρ U h w nm ((execOp a.eval o).run P w) ⟨p, .v undef, [(b, .row ety sz (xs.take off ++ (List.replicate len (zs.map AV.v) ++ xs.drop (off + len))))]⟩ := by
          intro h0 ad cap hv p
          subst h0
          have hm : Moved C ρ U h w b (ρ b) w := ⟨rfl, rfl, rfl, Nat.le_refl _, fun _ _ _ => rfl, .inl ⟨hub, rfl⟩⟩
          simp only [List.replicate_zero, List.nil_append, Nat.add_zero, List.take_append_drop]
          refine ⟨.tuple #[], w, _, _, .inl (run1 _ _ ?_), hm.hr hr (ob := .row ety sz xs) (fun ⟨cs, hcs⟩ => by rw [hb] at hcs; cases hcs) ?_, .p (.v _), fun _ _ h => hm.vr h, fun k hk => hk.elim .inl fun e => .inl (e ▸ hub)⟩
          · cases ad <;> simp [Builtin.clear_, h2, h3, hv, run_underlying hu]
          · refine ObR.keep hm (fun g o n hl => ⟨(hr.ownl g ⟨b, o, n, hl⟩).2, rfl⟩) hrow
        cases hl : ρ b with
        | dead => rcases hrow with ⟨e', _⟩ | ⟨_, _, _, _, e', _⟩ <;> rw [hl] at e' <;> cases e'
        | nil => rw [hl] at hown; exact nothing hown.1 _ _ (by rw [hown.2]) _
        | «at» g og n =>
          rw [hl] at hown
          rcases hown with ⟨h0, hv | ⟨A, hv⟩⟩ | ⟨cap, hlc, hroom, hv⟩
          · exact nothing h0 _ _ hv _
          · exact nothing h0 _ _ hv _
          · by_cases h0 : len = 0
            · subst h0; exact nothing rfl _ _ hv _
            · have hfit : off + len ≤ xs.length := hp
              obtain ⟨g', o', n', cells, hl', hg, hcs, hxn, hrl, hcell⟩ := row_at hr hb (by omega)
              rw [hl] at hl'; cases hl'
              have hmul : (off + len) * sz ≤ xs.length * sz := Nat.mul_le_mul_right _ hfit
              rw [Nat.add_mul] at hmul
              have hzlen := zeros_len z.cells len
              rw [hzc] at hzlen
              have hzone : ∀ v ∈ (Builtin.zeroCells z.cells len).toList, v.oneCell' = true := by
                intro v hv
                obtain ⟨j, hj, rfl⟩ := List.mem_iff_getElem.1 hv
                have hj' : j < len * sz := by rw [← hzlen]; exact hj
                have hsz : 0 < sz := by
                  rcases Nat.eq_zero_or_pos sz with h | h
                  · rw [h, Nat.mul_zero] at hj'; omega
                  · exact h
                have d1 : j / sz < len := Nat.div_lt_of_lt_mul (by rw [Nat.mul_comm]; exact hj')
                have d2 : j % sz < sz := Nat.mod_lt _ hsz
                have hgz := zeroCells_get hzc d1 d2
                rw [show j / sz * sz + j % sz = j from by rw [Nat.mul_comm]; exact Nat.div_add_mod j sz, hzz] at hgz
                rw [← Array.getElem?_toList, List.getElem?_eq_getElem hj] at hgz
                exact List.all_eq_true.1 hone _ (List.mem_iff_getElem?.2 ⟨_, hgz.symm⟩)
              have hst := run_storeCells_at P g (og + off * sz) ety (Builtin.zeroCells z.cells len).toList 0 cells w hg (by rw [hzlen]; omega) hzone
              simp only [Nat.add_zero, List.append_assoc] at hst
              have hm : Moved C ρ U h w b (.at g og n) (w.setRow g (pasted cells (og + off * sz) (Builtin.zeroCells z.cells len))) := by
                refine ⟨rfl, rfl, rfl, by simp, fun k hk hkb => ?_, .inl ⟨hub, hl.symm⟩⟩
                by_cases hkg : k = g
                · subst hkg; exact absurd hl (hkb og n)
                · exact heap_setRow_other w g k _ hkg
              have hzs : (Builtin.zeroCells z.cells len).size = len * sz := by rw [size_zeroCells, hzc]
              have hps := pasted_size cells (og + off * sz) (Builtin.zeroCells z.cells len) (by omega)
              have hgt : ∀ k : Nat, (xs.take off ++ (List.replicate len (zs.map AV.v) ++ xs.drop (off + len)))[k]? = if k < off then xs[k]? else if k < off + len then some (zs.map AV.v) else xs[k]? := by
                intro k
                have := splice_get xs (List.replicate len (zs.map AV.v)) off k (by simpa using hfit)
                simp only [List.length_replicate] at this
                rw [this]
                split
                · rfl
                · split
                  · rw [List.getElem?_replicate, if_pos (by omega)]
                  · rfl
              refine ⟨.tuple #[], _, _, _, .inl (run1 _ _ ?_), hm.hr hr (ob := .row ety sz (xs.take off ++ (List.replicate len (zs.map AV.v) ++ xs.drop (off + len)))) (fun ⟨cs, hcs⟩ => by rw [hb] at hcs; cases hcs) ?_, .p (.v _), fun _ _ h => hm.vr h, fun k hk => hk.elim .inl fun e => .inl (e ▸ hub)⟩
              · have hlen0 : len ≠ 0 := h0
                simp [Builtin.clear_, h2, h3, hv, run_underlying hu, zeroValue, typeInfo, hi, hiz, hst, pasted]
              · refine .inr ⟨g, og, n, _, rfl, setRow_heap w g cells _ ety (0, 0) hg, by rw [hps]; exact hcs, by
                  rw [show (xs.take off ++ (List.replicate len (zs.map AV.v) ++ xs.drop (off + len))).length = xs.length from by simp; omega]; exact hxn, fun k x' hk => ?_, fun k x' j c hk hj => ?_⟩
                · rw [hgt] at hk
                  split at hk
                  · exact hrl _ _ hk
                  · split at hk
                    · cases hk; simp [hzl]
                    · exact hrl _ _ hk
                · rw [pasted_get _ _ _ (by omega), hzs]
                  rw [hgt] at hk
                  split at hk
                  · rename_i hko
                    obtain ⟨u, hu1, hu2, hu3⟩ := hcell k x' j c hk hj
                    have hjs : j < sz := by rw [← hrl k x' hk]; exact (List.getElem?_eq_some_iff.1 hj).1
                    have : (k + 1) * sz ≤ off * sz := Nat.mul_le_mul_right _ hko
                    rw [Nat.add_mul, Nat.one_mul] at this
                    rw [if_pos (by omega)]
                    exact ⟨u, hu1, hu2, hm.vp hu3⟩
                  · split at hk
                    · rename_i hko hkl
                      cases hk
                      rw [List.getElem?_map, Option.map_eq_some_iff] at hj
                      obtain ⟨q, hq, rfl⟩ := hj
                      have hjs : j < sz := by rw [← hzl]; exact (List.getElem?_eq_some_iff.1 hq).1
                      have h5 : k * sz = off * sz + (k - off) * sz := by rw [← Nat.add_mul]; congr 1; omega
                      have h6 : (k - off + 1) * sz ≤ len * sz := Nat.mul_le_mul_right _ (by omega)
                      rw [Nat.add_mul, Nat.one_mul] at h6
                      rw [if_neg (by omega), if_pos (by omega)]
                      refine ⟨q, ?_, List.all_eq_true.1 hone q (List.mem_iff_getElem?.2 ⟨j, hq⟩), .v q⟩
                      rw [show og + (k * sz + j) - (og + off * sz) = (k - off) * sz + j from by omega]
                      rw [zeroCells_get hzc (show k - off < len by omega) hjs, hzz]
                      exact hq
                    · rename_i hko hkl
                      obtain ⟨u, hu1, hu2, hu3⟩ := hcell k x' j c hk hj
                      have h5 : (off + len) * sz ≤ k * sz := Nat.mul_le_mul_right _ (by omega)
                      rw [Nat.add_mul] at h5
                      rw [if_neg (by omega), if_neg (by omega)]
                      exact ⟨u, hu1, hu2, hm.vp hu3⟩
      · cases he
    · cases he
  · cases he

end
end Go.Eng
