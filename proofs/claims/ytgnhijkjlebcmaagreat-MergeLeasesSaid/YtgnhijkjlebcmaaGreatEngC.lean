/-
  What the operations of the program do, shown for the translated code: parts of an abstract interpreter.
  No condition: definitions and lemmas.
-/
import Derived.Test.YtgnhijkjlebcmaaGreatEngB
set_option linter.all false
namespace Go.Eng
open Go
section
variable {P : Program} {C : Ctx} {ρ : Nat → Loc} {U : Nat → Prop} {h : List (Nat × Ob)} {w : World} {nm : Nat} {t : List (Nat × AV)} {a : Act} {o : Oper} {e : E}
theorem bytesOfL_ok : ∀ (xs : List (List AV)) (l : List UInt8), bytesOfL xs = some l → ∃ ns : List Int, xs = ns.map (fun n => [.v (.int .u8 n)]) ∧ l = ns.map fun n => n.toNat.toUInt8
  | [], l, hl => by simp only [bytesOfL, Option.some.injEq] at hl; subst hl; exact ⟨[], rfl, rfl⟩
  | x :: xs, l, hl => by
    unfold bytesOfL at hl
    split at hl
    · rename_i e; cases e
    · rename_i n l' e
      simp only [List.cons.injEq] at e
      obtain ⟨rfl, rfl⟩ := e
      split at hl
      · rename_i r hr
        simp only [Option.some.injEq] at hl; subst hl
        obtain ⟨ns, h1, h2⟩ := bytesOfL_ok _ r hr
        exact ⟨n :: ns, by simp [h1], by simp [h2]⟩
      · cases hl
    · cases hl
theorem foldl_push : ∀ (ns : List Int) (s : ByteArray), ns.foldl (fun r n => r.push (UInt8.ofNat n.toNat)) s = ⟨(s.data.toList ++ ns.map fun n => n.toNat.toUInt8).toArray⟩
  | [], s => by simp
  | n :: ns, s => by
    rw [List.foldl_cons, foldl_push ns]
    simp [ByteArray.push]
theorem s_b2s (hr : HR C ρ U h w) (ht : Tm C ρ U w t a) {src dst el : TypeId} {x : Operand} (h1 : P.underlying src = some (.slice el)) (h2 : P.underlying el = some (.int .u8)) (h3 : P.underlying dst = some .string)
    (ho : o.op = .convert src dst x) (he : eff nm t h (.b2s x) = some e) (hp : e.pre) : Run C ρ U h w nm ((execOp a.eval o).run P w) e := by
  simp only [eff] at he
  split at he
  · rename_i p xs hc
    split at he
    · rename_i s hs
      simp only [Option.some.injEq] at he; subst he
      cases hx : ev t x with
      | none => rw [hx] at hc; simp [contentsN] at hc
      | some y =>
        rw [hx] at hc
        obtain ⟨vals, hR⟩ := contents_reads hr (Nat.zero_lt_one) (ev_ok ht hx) hc hp
        unfold bytesOf at hs
        split at hs
        · rename_i l hl
          simp only [Option.some.injEq] at hs; subst hs
          obtain ⟨ns, hxs, hln⟩ := bytesOfL_ok _ _ hl
          have hvals : vals = ns.map (Value.int .u8) := by
            apply List.ext_getElem?
            intro k
            have hlen : vals.length = ns.length := by rw [hR.len, hxs]; simp
            by_cases hk : k < ns.length
            · have hxk : xs[k]? = some [.v (.int .u8 ns[k])] := by rw [hxs]; simp [hk]
              obtain ⟨v, hv, hvp⟩ := hR.rel k _ 0 (.v (.int .u8 ns[k])) hxk rfl
              cases hvp
              simp only [Nat.mul_one, Nat.add_zero] at hv
              rw [hv]
              simp [hk]
            · rw [List.getElem?_eq_none (by omega), List.getElem?_eq_none (by simp; omega)]
          obtain ⟨ad, cap, hxe, hnil, hcell⟩ := hR.form
          have hrun : (convert src dst (a.eval x)).run P w = .ok (.string ⟨l.toArray⟩) w := by
            rw [hxe, run_convert_bytes_string w src dst el ad xs.length cap h1 h2 h3]
            cases ad with
            | none =>
              have := hnil rfl
              rw [this] at hxs
              have hns : ns = [] := by cases ns with | nil => rfl | cons _ _ => simp at hxs
              subst hns
              rw [hln]
              simp [Conv.bytesToString]
              rfl
            | some A =>
              have hl' := run_loadCells_list (P := P) w A vals (fun j v hj => hcell A rfl j v hj)
              rw [hR.len, Nat.mul_one] at hl'
              rw [hvals] at hl'
              rw [run_bytesToString w A xs.length cap ns hl', foldl_push, hln]
              simp
          simp only [execOp, ho, Sem.run_bind, hrun, Result.andThen_ok, Sem.run_pure]
          exact .same hr (.p (.v _)) _
        · cases hs
    · cases he
  · cases he
theorem s_minmax (hr : HR C ρ U h w) (ht : Tm C ρ U w t a) {c : Call} {mx : Bool} (hc : c.callee = .builtin (if mx then .max else .min)) (ho : o.op = .call c) (he : eff nm t h (.minmax mx c.args.toList) = some e) :
    Run C ρ U h w nm ((execOp a.eval o).run P w) e := by
  simp only [eff] at he
  split at he
  · rename_i k x k' y hxs
    split at he
    · rename_i hk
      subst hk
      simp only [E.ok, Option.some.injEq] at he; subst he
      have hv := evL_ok ht hxs
      have hl : (c.args.toList.map a.eval).length = 2 := by have := hv.1; simpa using this.symm
      have e2 : ∃ u v, c.args.toList.map a.eval = [u, v] := by
        match c.args.toList.map a.eval, hl with
        | [u, v], _ => exact ⟨u, v, rfl⟩
      obtain ⟨u, v, e3⟩ := e2
      have eu : u = .int k x := (hv.2 0 _ u rfl (by rw [e3]; rfl)).v_inv
      have ev' : v = .int k y := (hv.2 1 _ v rfl (by rw [e3]; rfl)).v_inv
      subst eu; subst ev'
      have e4 : (c.args.map a.eval).toList = [.int k x, .int k y] := by rw [← e3]; simp
      cases mx
      · simp only [Bool.false_eq_true, if_false] at hc ⊢
        have hrun : (execOp a.eval o).run P w = .ok (.value (.int k (if y < x then y else x))) w := by
          simp only [execOp, ho, resolve, hc, invoke, builtin, Sem.run_bind, Sem.run_pure, Result.andThen_ok, Builtin.min_, e4]
          simp [Builtin.min2]
        rw [hrun, show (min x y) = (if y < x then y else x) from by rw [Int.min_def]; split <;> split <;> omega]
        exact .same hr (.p (.v _)) True
      · simp only [if_true] at hc ⊢
        have hrun : (execOp a.eval o).run P w = .ok (.value (.int k (if y > x then y else x))) w := by
          simp only [execOp, ho, resolve, hc, invoke, builtin, Sem.run_bind, Sem.run_pure, Result.andThen_ok, Builtin.max_, e4]
          simp [Builtin.max2]
        rw [hrun, show (max x y) = (if y > x then y else x) from by rw [Int.max_def]; split <;> split <;> omega]
        exact .same hr (.p (.v _)) True
    · cases he
  · cases he
theorem s_cap (hr : HR C ρ U h w) (ht : Tm C ρ U w t a) {ty el : TypeId} {x : Operand} {c : Call} (h1 : P.underlying ty = some (.slice el))
    (hc : c.callee = .builtin .cap) (h2 : c.argTypes[0]? = some ty) (h3 : c.args[0]? = some x) (ho : o.op = .call c) (he : eff nm t h (.cap x) = some e) :
    Run C ρ U h w nm ((execOp a.eval o).run P w) e := by
  simp only [eff] at he
  split at he
  · rename_i n q hx
    have hv := (ev_ok ht hx).v_inv
    simp only [E.ok, Option.some.injEq] at he; subst he
    have h4 : (c.args.map a.eval)[0]? = some (a.eval x) := by simp [h3]
    have hrun : (Builtin.cap_ c.argTypes o.type (c.args.map a.eval)).run P w = .ok (.int .i64 q) w := by
      simp [Builtin.cap_, h2, h3, hv, run_underlying h1, goInt]
    simp only [execOp, ho, resolve, hc, invoke, builtin, Sem.run_bind, Sem.run_pure, Result.andThen_ok, hrun]
    exact .same hr (.p (.v _)) True
  · cases he
theorem zeroCells_get {z : Array Value} {sz n k j : Nat} (hz : z.size = sz) (hk : k < n) (hj : j < sz) : (Builtin.zeroCells z n)[k * sz + j]? = z.toList[j]? := by
  have := madeCells_get hz hk hj
  unfold Builtin.zeroCells
  unfold madeCells at this
  rw [hz]
  rw [hz] at this
  exact this
theorem s_appz (hr : HR C ρ U h w) (ht : Tm C ρ U w t a) (hn : ¬ U nm) {ty ti el sz by_ : Nat} {q : IntKind} {zs : List Value} {s x : Operand} {c : Call} (hE : El P ty el sz by_ zs) (hone : zs.all Value.oneCell' = true) (hti : P.underlying ti = some (.int q))
    (hc : c.callee = .builtin .append) (h2 : c.argTypes = #[ty, ti]) (h3 : c.args = #[s, x]) (ho : o.op = .call c) (he : eff nm t h (.appz el sz by_ zs s x) = some e) (hp : e.pre) :
    Run C ρ U h w nm ((execOp a.eval o).run P w) e := by
  obtain ⟨i, z, hi, hiz, his, hib, hzc, hzl⟩ := hE.info
  have hsz := hE.pos
  simp only [eff] at he
  split at he
  · rename_i k n hs hx
    have e1 := (ev_ok ht hs).v_inv
    have e2 := (ev_ok ht hx).v_inv
    simp only [Option.some.injEq] at he; subst he
    obtain ⟨h0, hb, h63⟩ := hp
    have hnn : (n.toNat : Int) = n := by omega
    have hbn : n.toNat * by_ ≤ 140737488355328 := by
      have : ((n.toNat * by_ : Nat) : Int) ≤ 140737488355328 := by rw [Int.natCast_mul, hnn]; exact hb
      omega
    have hcapge := grownCap_ge w n.toNat 0 el
    have hw : IntKind.i64.wrap n = n := by rw [IntKind.wrap_i64]; omega
    have c1 : ¬ n < 0 := by omega
    have c2 : ¬ (281474976710656 < n * (by_ : Int)) := by omega
    have c3 : ¬ n.toNat = 0 := by omega
    have c3' : ¬ n ≤ 0 := by omega
    have c4 : ¬ (9223372036854775807 < max n 0) := by omega
    have c5 : ¬ (281474976710656 < Builtin.nextslicecap n.toNat 0 * by_) := by rw [nextslicecap_zero (by omega)]; omega
    have c6 : ¬ (n.toNat * sz = 0) := by
      have := Nat.mul_pos (show 0 < n.toNat by omega) hsz
      omega
    have hrun : (Builtin.append_ #[ty, ti] o.type #[a.eval s, a.eval x]).run P w =
        .ok (.slice (some ⟨w.heap.size, 0, none⟩) n.toNat (grownCap w n.toNat 0 el)) (w.drew.alloc (.cells (Builtin.zeroCells z.cells n.toNat ++ Builtin.zeroCells z.cells (grownCap w n.toNat 0 el - n.toNat)) el)) := by
      rw [e1, e2]
      simp [Builtin.append_, run_underlying hE.und, run_underlying hti, sizeOf, typeInfo, zeroValue, hi, hiz, asInt, asIntOf, hw, c1, c2, c3', c4, c5, c6, his, hib, Question.forced, run_firstCells_none, newRow, grownCap]
    have hm : Moved C ρ U h w nm (.at w.heap.size 0 (grownCap w n.toNat 0 el * sz)) (w.drew.alloc (.cells (Builtin.zeroCells z.cells n.toNat ++ Builtin.zeroCells z.cells (grownCap w n.toNat 0 el - n.toNat)) el)) :=
      ⟨rfl, rfl, rfl, by simp, fun g hg _ => Go.RowKit.Below.heap_alloc w.drew _ g hg, .inr (.inr ⟨hn, .inr ⟨w.heap.size, 0, _, rfl, Nat.le_refl _, by simp⟩⟩)⟩
    have hz := zeros_row (w := w.drew.alloc (.cells (Builtin.zeroCells z.cells n.toNat ++ Builtin.zeroCells z.cells (grownCap w n.toNat 0 el - n.toNat)) el)) (ok := okc C (up ρ nm (.at w.heap.size 0 (grownCap w n.toNat 0 el * sz))) (w.drew.alloc (.cells (Builtin.zeroCells z.cells n.toNat ++ Builtin.zeroCells z.cells (grownCap w n.toNat 0 el - n.toNat)) el)))
      (n := n.toNat) (cells := Builtin.zeroCells z.cells n.toNat) hE.zl hone (fun k j hk hj => by rw [zeroCells_get hzc hk hj, hzl])
    have hnew := new_row (w' := w.drew.alloc (.cells (Builtin.zeroCells z.cells n.toNat ++ Builtin.zeroCells z.cells (grownCap w n.toNat 0 el - n.toNat)) el)) (ok := okc C (up ρ nm (.at w.heap.size 0 (grownCap w n.toNat 0 el * sz))) (w.drew.alloc (.cells (Builtin.zeroCells z.cells n.toNat ++ Builtin.zeroCells z.cells (grownCap w n.toNat 0 el - n.toNat)) el)))
      (ρ' := up ρ nm (.at w.heap.size 0 (grownCap w n.toNat 0 el * sz))) (U' := addU U nm) (el := el) (sz := sz) (g := w.heap.size) (m := n.toNat) (cap := grownCap w n.toNat 0 el) (xs := List.replicate n.toNat (zs.map AV.v)) (vals := (Builtin.zeroCells z.cells n.toNat).toList) (rest := (Builtin.zeroCells z.cells (grownCap w n.toNat 0 el - n.toNat)).toList)
      (by rw [show ((Builtin.zeroCells z.cells n.toNat).toList ++ (Builtin.zeroCells z.cells (grownCap w n.toNat 0 el - n.toNat)).toList).toArray = Builtin.zeroCells z.cells n.toNat ++ Builtin.zeroCells z.cells (grownCap w n.toNat 0 el - n.toNat) from by apply Array.ext'; simp]; exact heap_alloc_new w.drew _)
      (by rw [zeros_len, hzc]; simp) (fun k x hk => by
        rw [List.getElem?_replicate] at hk
        split at hk
        · cases hk; simp [hE.zl]
        · cases hk)
      (fun v hv => by
        obtain ⟨j, hj, rfl⟩ := List.mem_iff_getElem.1 hv
        have hj' : j < n.toNat * sz := by rw [← hzc, ← zeros_len]; exact hj
        have d1 : j / sz < n.toNat := Nat.div_lt_of_lt_mul (by rw [Nat.mul_comm]; exact hj')
        have d2 : j % sz < sz := Nat.mod_lt _ hsz
        have hg := zeroCells_get hzc d1 d2
        rw [show j / sz * sz + j % sz = j from by rw [Nat.mul_comm]; exact Nat.div_add_mod j sz, hzl] at hg
        rw [← Array.getElem?_toList, List.getElem?_eq_getElem hj] at hg
        exact List.all_eq_true.1 hone _ (List.mem_iff_getElem?.2 ⟨_, hg.symm⟩))
      (fun k x j c hk hj => (hz k x j c hk hj).imp fun v hv => ⟨by rw [Array.getElem?_toList]; exact hv.1, hv.2.2⟩)
      (by rw [List.length_append, zeros_len, zeros_len, hzc, ← Nat.add_mul]; congr 1; omega) (by simp) hcapge
    refine Run.moved (v := .slice (some ⟨w.heap.size, 0, none⟩) n.toNat (grownCap w n.toNat 0 el)) hr hm (fun ⟨cs, hcs⟩ => absurd (hr.hp _ _ hcs).1 hn) hnew.1 (.inl ?_) (.own (.inr rfl) ?_) (.inr rfl) _
    · simp only [execOp, ho, resolve, hc, h2, h3, invoke, builtin, Sem.run_bind, Sem.run_pure, Result.andThen_ok, List.map_toArray, List.map_cons, List.map_nil, hrun]
    · simp only [up, if_true]
      exact hnew.2
  · cases he
theorem s_clr (hr : HR C ρ U h w) (ht : Tm C ρ U w t a) {ty el sz : Nat} {zs : List Value} {x : Operand} {c : Call} (hu : P.underlying ty = some (.slice el)) (hz : zerosOf P el = some zs) (hs : sizeP P el = some sz)
    (hzl : zs.length = sz) (hone : zs.all Value.oneCell' = true)
    (hc : c.callee = .builtin .clear) (h2 : c.argTypes[0]? = some ty) (h3 : c.args[0]? = some x) (ho : o.op = .call c) (he : eff nm t h (.clr sz zs x) = some e) (hp : e.pre) :
    Run C ρ U h w nm ((execOp a.eval o).run P w) e := by
  obtain ⟨i, z, hi, hiz, hzz⟩ := zerosOf_info hz
  have hzc : z.cells.size = sz := by rw [← Array.length_toList, hzz]; exact hzl
  have run1 : ∀ v w', (Builtin.clear_ c.argTypes o.type (c.args.map a.eval)).run P w = .ok v w' → (execOp a.eval o).run P w = .ok (.value v) w' := by
    intro v w' hv
    simp only [execOp, ho, resolve, hc, invoke, builtin, Sem.run_bind, Sem.run_pure, Result.andThen_ok, hv]
  have h4 : (c.args.map a.eval)[0]? = some (a.eval x) := by simp [h3]
  simp only [eff] at he
  split at he
  · rename_i b sz' off len hx
    split at he
    · rename_i ety s2 xs hb
      split at he
      · rename_i hss
        obtain ⟨e1, e2⟩ := hss
        subst e1; subst e2
        simp only [Option.some.injEq] at he; subst he
        obtain ⟨hub, _, hown⟩ := (ev_ok ht hx).own_inv
        have hrow := (hr.hp b _ hb).2
        have nothing : len = 0 → ∀ ad cap, a.eval x = .slice ad 0 cap → ∀ p, Run C ρ U h w nm ((execOp a.eval o).run P w) ⟨p, .v undef, [(b, .row ety sz (xs.take off ++ (List.replicate len (zs.map AV.v) ++ xs.drop (off + len))))]⟩ := by
          intro h0 ad cap hv p
          subst h0
          have hm : Moved C ρ U h w b (ρ b) w := ⟨rfl, rfl, rfl, Nat.le_refl _, fun _ _ _ => rfl, .inl ⟨hub, rfl⟩⟩
          simp only [List.replicate_zero, List.nil_append, Nat.add_zero, List.take_append_drop]
          refine ⟨.tuple #[], w, _, _, .inl (run1 _ _ ?_), hm.hr hr (ob := .row ety sz xs) (fun ⟨cs, hcs⟩ => by rw [hb] at hcs; cases hcs) ?_, .p (.v _), fun _ _ h => hm.vr h, fun k hk => hk.elim .inl fun e => .inl (e ▸ hub)⟩
          · cases ad <;> simp [Builtin.clear_, h2, h3, hv, run_underlying hu]
          · refine ObR.keep hm (fun g o n hl => ⟨(hr.ownl g ⟨b, o, n, hl⟩).2, rfl⟩) hrow
        cases hl : ρ b with
        | dead => rcases hrow with ⟨e', _⟩ | ⟨_, _, _, _, e', _⟩ <;> rw [hl] at e' <;> cases e'
        | nil => rw [hl] at hown; exact nothing hown.1 _ _ (by rw [hown.2]) _
        | «at» g og n =>
          rw [hl] at hown
          rcases hown with ⟨h0, _, hv | ⟨A, hv⟩⟩ | ⟨cap, hlc, hroom, hv⟩
          · exact nothing h0 _ _ hv _
          · exact nothing h0 _ _ hv _
          · by_cases h0 : len = 0
            · subst h0; exact nothing rfl _ _ hv _
            · have hfit : off + len ≤ xs.length := hp
              obtain ⟨g', o', n', cells, hl', hg, hcs, hxn, hrl, hcell⟩ := row_at hr hb (by omega)
              rw [hl] at hl'; cases hl'
              have hmul : (off + len) * sz ≤ xs.length * sz := Nat.mul_le_mul_right _ hfit
              rw [Nat.add_mul] at hmul
              have hzlen := zeros_len z.cells len
              rw [hzc] at hzlen
              have hzone : ∀ v ∈ (Builtin.zeroCells z.cells len).toList, v.oneCell' = true := by
                intro v hv
                obtain ⟨j, hj, rfl⟩ := List.mem_iff_getElem.1 hv
                have hj' : j < len * sz := by rw [← hzlen]; exact hj
                have hsz : 0 < sz := by
                  rcases Nat.eq_zero_or_pos sz with h | h
                  · rw [h, Nat.mul_zero] at hj'; omega
                  · exact h
                have d1 : j / sz < len := Nat.div_lt_of_lt_mul (by rw [Nat.mul_comm]; exact hj')
                have d2 : j % sz < sz := Nat.mod_lt _ hsz
                have hgz := zeroCells_get hzc d1 d2
                rw [show j / sz * sz + j % sz = j from by rw [Nat.mul_comm]; exact Nat.div_add_mod j sz, hzz] at hgz
                rw [← Array.getElem?_toList, List.getElem?_eq_getElem hj] at hgz
                exact List.all_eq_true.1 hone _ (List.mem_iff_getElem?.2 ⟨_, hgz.symm⟩)
              have hst := run_storeCells_at P g (og + off * sz) ety (Builtin.zeroCells z.cells len).toList 0 cells w hg (by rw [hzlen]; omega) hzone
              simp only [Nat.add_zero, List.append_assoc] at hst
              have hm : Moved C ρ U h w b (.at g og n) (w.setRow g (pasted cells (og + off * sz) (Builtin.zeroCells z.cells len))) := by
                refine ⟨rfl, rfl, rfl, by simp, fun k hk hkb => ?_, .inl ⟨hub, hl.symm⟩⟩
                by_cases hkg : k = g
                · subst hkg; exact absurd hl (hkb og n)
                · exact heap_setRow_other w g k _ hkg
              have hzs : (Builtin.zeroCells z.cells len).size = len * sz := by rw [size_zeroCells, hzc]
              have hps := pasted_size cells (og + off * sz) (Builtin.zeroCells z.cells len) (by omega)
              have hgt : ∀ k : Nat, (xs.take off ++ (List.replicate len (zs.map AV.v) ++ xs.drop (off + len)))[k]? = if k < off then xs[k]? else if k < off + len then some (zs.map AV.v) else xs[k]? := by
                intro k
                have := splice_get xs (List.replicate len (zs.map AV.v)) off k (by simpa using hfit)
                simp only [List.length_replicate] at this
                rw [this]
                split
                · rfl
                · split
                  · rw [List.getElem?_replicate, if_pos (by omega)]
                  · rfl
              refine ⟨.tuple #[], _, _, _, .inl (run1 _ _ ?_), hm.hr hr (ob := .row ety sz (xs.take off ++ (List.replicate len (zs.map AV.v) ++ xs.drop (off + len)))) (fun ⟨cs, hcs⟩ => by rw [hb] at hcs; cases hcs) ?_, .p (.v _), fun _ _ h => hm.vr h, fun k hk => hk.elim .inl fun e => .inl (e ▸ hub)⟩
              · have hlen0 : len ≠ 0 := h0
                simp [Builtin.clear_, h2, h3, hv, run_underlying hu, zeroValue, typeInfo, hi, hiz, hst, pasted]
              · refine .inr ⟨g, og, n, _, rfl, setRow_heap w g cells _ ety (0, 0) hg, by rw [hps]; exact hcs, by
                  rw [show (xs.take off ++ (List.replicate len (zs.map AV.v) ++ xs.drop (off + len))).length = xs.length from by simp; omega]; exact hxn, fun k x' hk => ?_, fun k x' j c hk hj => ?_⟩
                · rw [hgt] at hk
                  split at hk
                  · exact hrl _ _ hk
                  · split at hk
                    · cases hk; simp [hzl]
                    · exact hrl _ _ hk
                · rw [pasted_get _ _ _ (by omega), hzs]
                  rw [hgt] at hk
                  split at hk
                  · rename_i hko
                    obtain ⟨u, hu1, hu2, hu3⟩ := hcell k x' j c hk hj
                    have hjs : j < sz := by rw [← hrl k x' hk]; exact (List.getElem?_eq_some_iff.1 hj).1
                    have : (k + 1) * sz ≤ off * sz := Nat.mul_le_mul_right _ hko
                    rw [Nat.add_mul, Nat.one_mul] at this
                    rw [if_pos (by omega)]
                    exact ⟨u, hu1, hu2, hm.vp hu3⟩
                  · split at hk
                    · rename_i hko hkl
                      cases hk
                      rw [List.getElem?_map, Option.map_eq_some_iff] at hj
                      obtain ⟨q, hq, rfl⟩ := hj
                      have hjs : j < sz := by rw [← hzl]; exact (List.getElem?_eq_some_iff.1 hq).1
                      have h5 : k * sz = off * sz + (k - off) * sz := by rw [← Nat.add_mul]; congr 1; omega
                      have h6 : (k - off + 1) * sz ≤ len * sz := Nat.mul_le_mul_right _ (by omega)
                      rw [Nat.add_mul, Nat.one_mul] at h6
                      rw [if_neg (by omega), if_pos (by omega)]
                      refine ⟨q, ?_, List.all_eq_true.1 hone q (List.mem_iff_getElem?.2 ⟨j, hq⟩), .v q⟩
                      rw [show og + (k * sz + j) - (og + off * sz) = (k - off) * sz + j from by omega]
                      rw [zeroCells_get hzc (show k - off < len by omega) hjs, hzz]
                      exact hq
                    · rename_i hko hkl
                      obtain ⟨u, hu1, hu2, hu3⟩ := hcell k x' j c hk hj
                      have h5 : (off + len) * sz ≤ k * sz := Nat.mul_le_mul_right _ (by omega)
                      rw [Nat.add_mul] at h5
                      rw [if_neg (by omega), if_neg (by omega)]
                      exact ⟨u, hu1, hu2, hm.vp hu3⟩
      · cases he
    · cases he
  · cases he
theorem s_copy (hr : HR C ρ U h w) (ht : Tm C ρ U w t a) {ty el sz : Nat} {d x : Operand} {c : Call} (hu : P.underlying ty = some (.slice el)) (hs : sizeP P el = some sz) (hsz : 0 < sz)
    (hc : c.callee = .builtin .copy) (h2 : c.argTypes[0]? = some ty) (h3 : c.args = #[d, x]) (ho : o.op = .call c) (he : eff nm t h (.copy sz d x) = some e) (hp : e.pre) :
    Run C ρ U h w nm ((execOp a.eval o).run P w) e := by
  have run1 : ∀ v w', (Builtin.copy_ c.argTypes o.type (c.args.map a.eval)).run P w = .ok v w' → (execOp a.eval o).run P w = .ok (.value v) w' := by
    intro v w' hv
    simp only [execOp, ho, resolve, hc, invoke, builtin, Sem.run_bind, Sem.run_pure, Result.andThen_ok, hv]
  simp only [eff] at he
  split at he
  · rename_i b sz' off len p ys hd hcn
    split at he
    · rename_i ety s2 xs hb
      split at he
      · rename_i hss
        obtain ⟨e1, e2⟩ := hss
        subst e1; subst e2
        simp only [Option.some.injEq] at he; subst he
        obtain ⟨hp1, hfit⟩ := hp
        obtain ⟨vals, hR⟩ : ∃ vals, Reads w (okc C ρ w) sz ys (a.eval x) vals := by
          cases hx : ev t x with
          | none => rw [hx] at hcn; simp [contentsN] at hcn
          | some y => rw [hx] at hcn; exact contents_reads hr hsz (ev_ok ht hx) hcn hp1
        obtain ⟨hub, _, hown⟩ := (ev_ok ht hd).own_inv
        have hrow := (hr.hp b _ hb).2
        obtain ⟨ad, cap, hx, hnil, hcell⟩ := hR.form
        obtain ⟨m, hm⟩ : ∃ m, m = min len ys.length := ⟨_, rfl⟩
        obtain ⟨zv, hzv⟩ : ∃ zv, zv = vals.take (m * sz) := ⟨_, rfl⟩
        have hmy : m * sz ≤ vals.length := by rw [hR.len]; exact Nat.mul_le_mul_right _ (by omega)
        have hzl : zv.length = m * sz := by rw [hzv, List.length_take]; omega
        have hm1 : Nat.min ys.length len = m := by rw [hm]; exact Nat.min_comm _ _
        have hm2 : min ys.length len = m := hm1
        have hzg : ∀ (j : Nat) (v : Value), zv[j]? = some v → vals[j]? = some v := by
          intro j v hj
          rw [hzv, List.getElem?_take] at hj
          split at hj
          · exact hj
          · cases hj
        have hfc : (Builtin.firstCells sz m (.slice ad ys.length cap)).run P w = .ok zv.toArray w := by
          cases ad with
          | none =>
            have h0 := hnil rfl
            have hm0 : m = 0 := by rw [hm, h0]; simp
            have hz0 : zv = [] := List.eq_nil_of_length_eq_zero (by rw [hzl, hm0, Nat.zero_mul])
            rw [hz0]
            simp [Builtin.firstCells]
          | some B => exact run_firstCells_some w sz m B ys.length cap zv hzl (fun j v hj => hcell B rfl j v (hzg j v hj))
        have hlen : (ys.take len).length = m := by rw [List.length_take, hm]
        have hargs : c.args.map a.eval = #[a.eval d, .slice ad ys.length cap] := by rw [h3, ← hx]; simp
        have nothing : m = 0 → ∀ ad0 cap0, a.eval d = .slice ad0 len cap0 → ∀ p, Run C ρ U h w nm ((execOp a.eval o).run P w) ⟨p, .v (.int .i64 (Int.ofNat (min len ys.length))), [(b, .row ety sz (xs.take off ++ (ys.take len ++ xs.drop (off + min len ys.length))))]⟩ := by
          intro h0 ad0 cap0 hv p
          have hz0 : zv = [] := List.eq_nil_of_length_eq_zero (by rw [hzl, h0, Nat.zero_mul])
          have hy0 : ys.take len = [] := List.eq_nil_of_length_eq_zero (by rw [hlen, h0])
          have hmv : Moved C ρ U h w b (ρ b) w := ⟨rfl, rfl, rfl, Nat.le_refl _, fun _ _ _ => rfl, .inl ⟨hub, rfl⟩⟩
          rw [hy0, ← hm, h0]
          simp only [List.nil_append, Nat.add_zero, List.take_append_drop]
          refine ⟨.int .i64 (Int.ofNat 0), w, _, _, .inl (run1 _ _ ?_), hmv.hr hr (ob := .row ety sz xs) (fun ⟨cs, hcs⟩ => by rw [hb] at hcs; cases hcs) ?_, .p (.v _), fun _ _ h => hmv.vr h, fun k hk => hk.elim .inl fun e => .inl (e ▸ hub)⟩
          · rw [hargs, hv]
            rw [hz0] at hfc
            cases ad0 <;> simp [Builtin.copy_, h2, run_underlying hu, Builtin.lenOf, run_sizeP hs, hm1, hm2, h0 ▸ hfc, storeCells, goInt, h0]
          · refine ObR.keep hmv (fun g o n hl => ⟨(hr.ownl g ⟨b, o, n, hl⟩).2, rfl⟩) hrow
        cases hl : ρ b with
        | dead => rcases hrow with ⟨e', _⟩ | ⟨_, _, _, _, e', _⟩ <;> rw [hl] at e' <;> cases e'
        | nil => rw [hl] at hown; exact nothing (by rw [hm, hown.1]; simp) _ _ (by rw [hown.2, hown.1]) _
        | «at» g og n =>
          rw [hl] at hown
          rcases hown with ⟨h0, _, hv | ⟨A, hv⟩⟩ | ⟨cap0, hlc, hroom, hv⟩
          · exact nothing (by rw [hm, h0]; simp) _ _ (by rw [hv, h0]) _
          · exact nothing (by rw [hm, h0]; simp) _ _ (by rw [hv, h0]) _
          · by_cases h0 : m = 0
            · exact nothing h0 _ _ hv _
            · obtain ⟨g', o', n', cells, hl', hg, hcs, hxn, hrl, hcellr⟩ := row_at hr hb (by omega)
              rw [hl] at hl'; cases hl'
              have hmul : (off + m) * sz ≤ xs.length * sz := Nat.mul_le_mul_right _ (by omega)
              rw [Nat.add_mul] at hmul
              have hzone : ∀ v ∈ zv, v.oneCell' = true := fun v hv => hR.one v (List.mem_of_mem_take (by rw [← hzv]; exact hv))
              have hst := run_storeCells_at P g (og + off * sz) ety zv 0 cells w hg (by rw [hzl]; omega) hzone
              simp only [Nat.add_zero, List.append_assoc] at hst
              have hmv : Moved C ρ U h w b (.at g og n) (w.setRow g (pasted cells (og + off * sz) zv.toArray)) := by
                refine ⟨rfl, rfl, rfl, by simp, fun k hk hkb => ?_, .inl ⟨hub, hl.symm⟩⟩
                by_cases hkg : k = g
                · subst hkg; exact absurd hl (hkb og n)
                · exact heap_setRow_other w g k _ hkg
              have hzs : zv.toArray.size = m * sz := by simpa using hzl
              have hps := pasted_size cells (og + off * sz) zv.toArray (by omega)
              have hgt : ∀ k : Nat, (xs.take off ++ (ys.take len ++ xs.drop (off + min len ys.length)))[k]? = if k < off then xs[k]? else if k < off + m then ys[k - off]? else xs[k]? := by
                intro k
                have := splice_get xs (ys.take len) off k (by rw [hlen]; omega)
                rw [hlen] at this
                rw [← hm, this]
                split
                · rfl
                · split
                  · rw [List.getElem?_take, if_pos (by omega)]
                  · rfl
              refine ⟨.int .i64 (Int.ofNat m), _, _, _, .inl (run1 _ _ ?_), hmv.hr hr (ob := .row ety sz (xs.take off ++ (ys.take len ++ xs.drop (off + min len ys.length)))) (fun ⟨cs, hcs⟩ => by rw [hb] at hcs; cases hcs) ?_, by rw [← hm]; exact .p (.v _), fun _ _ h => hmv.vr h, fun k hk => hk.elim .inl fun e => .inl (e ▸ hub)⟩
              · rw [hargs, hv]
                simp [Builtin.copy_, h2, run_underlying hu, Builtin.lenOf, run_sizeP hs, hm1, hm2, hfc, hst, pasted, goInt]
              · refine .inr ⟨g, og, n, _, rfl, setRow_heap w g cells _ ety (0, 0) hg, by rw [hps]; exact hcs, by
                  rw [show (xs.take off ++ (ys.take len ++ xs.drop (off + min len ys.length))).length = xs.length from by simp; omega]; exact hxn, fun k x' hk => ?_, fun k x' j c hk hj => ?_⟩
                · rw [hgt] at hk
                  split at hk
                  · exact hrl _ _ hk
                  · split at hk
                    · exact hR.el _ _ hk
                    · exact hrl _ _ hk
                · rw [pasted_get _ _ _ (by omega), hzs]
                  rw [hgt] at hk
                  split at hk
                  · rename_i hko
                    obtain ⟨u, hu1, hu2, hu3⟩ := hcellr k x' j c hk hj
                    have hjs : j < sz := by rw [← hrl k x' hk]; exact (List.getElem?_eq_some_iff.1 hj).1
                    have : (k + 1) * sz ≤ off * sz := Nat.mul_le_mul_right _ hko
                    rw [Nat.add_mul, Nat.one_mul] at this
                    rw [if_pos (by omega)]
                    exact ⟨u, hu1, hu2, hmv.vp hu3⟩
                  · split at hk
                    · rename_i hko hkl
                      have hjs : j < sz := by rw [← hR.el _ x' hk]; exact (List.getElem?_eq_some_iff.1 hj).1
                      obtain ⟨q, hq1, hq2⟩ := hR.rel _ x' j c hk hj
                      have h5 : k * sz = off * sz + (k - off) * sz := by rw [← Nat.add_mul]; congr 1; omega
                      have h6 : (k - off + 1) * sz ≤ m * sz := Nat.mul_le_mul_right _ (by omega)
                      rw [Nat.add_mul, Nat.one_mul] at h6
                      rw [if_neg (by omega), if_pos (by omega)]
                      refine ⟨q, ?_, hR.one q (List.mem_iff_getElem?.2 ⟨_, hq1⟩), hmv.vp hq2⟩
                      rw [show og + (k * sz + j) - (og + off * sz) = (k - off) * sz + j from by omega]
                      rw [List.getElem?_toArray, hzv, List.getElem?_take, if_pos (by omega)]
                      exact hq1
                    · rename_i hko hkl
                      obtain ⟨u, hu1, hu2, hu3⟩ := hcellr k x' j c hk hj
                      have h5 : (off + m) * sz ≤ k * sz := Nat.mul_le_mul_right _ (by omega)
                      rw [Nat.add_mul] at h5
                      rw [if_neg (by omega), if_neg (by omega)]
                      exact ⟨u, hu1, hu2, hmv.vp hu3⟩
      · cases he
    · cases he
  · cases he
end
end Go.Eng
namespace Go.Eng
open Go
section
variable {P : Program} {C : Ctx} {ρ : Nat → Loc} {U : Nat → Prop} {h : List (Nat × Ob)} {w : World} {nm : Nat} {t : List (Nat × AV)} {a : Act} {o : Oper} {e : E}
theorem eff_sound {so : SOp} (hs : strip P o = some so) (hr : HR C ρ U h w) (ht : Tm C ρ U w t a) (hn : ¬ U nm) (he : eff nm t h so = some e) (hp : e.pre) :
    Run C ρ U h w nm ((execOp a.eval o).run P w) e := by
  unfold strip at hs
  split at hs
  · rename_i x hop; cases hs; exact s_mov hr ht (.inl hop) he
  · rename_i x hop; cases hs; exact s_mov hr ht (.inr hop) he
  · rename_i c x y hop; cases hs; exact s_pick hr ht hop he
  · rename_i el hop
    split at hs
    · rename_i zs hz; cases hs; exact s_alloc hr hn hz hop he
    · cases hs
  · rename_i el x hop; cases hs; exact s_box hr ht hn hop he
  · rename_i ty parts hop
    split at hs
    · rename_i fs hu
      split at hs
      · rename_i zs hz
        split at hs
        · rename_i ps hps
          split at hs
          · rename_i hall
            cases hs
            exact s_build hr ht hu hz hps (fun f hf => List.all_eq_true.1 hall f hf) hop he
          · cases hs
        · cases hs
      · cases hs
    · rename_i n el hu
      split at hs
      · rename_i zs hz
        split at hs
        · rename_i sz hsz
          cases hs
          exact s_buildA hr ht hu hz hsz hop he
        · cases hs
      · cases hs
    · cases hs
  · rename_i ty len parts hop
    split at hs
    · rename_i el hu
      split at hs
      · rename_i zs hz
        split at hs
        · rename_i sz hsz
          split at hs
          · rename_i hc
            cases hs
            exact s_bslice hr ht hn hu hz hsz hc.1 hc.2.1 hc.2.2.1 hc.2.2.2 hop he
          · cases hs
        · cases hs
      · cases hs
    · cases hs
  · rename_i ty x hop
    split at hs
    · rename_i ag ha
      split at hs
      · rename_i sz hsz; cases hs; exact s_load hr ht ha hsz hop he hp
      · cases hs
    · cases hs
  · rename_i ty x y hop
    split at hs
    · rename_i sz hsz; cases hs; exact s_store hr ht hsz hop he hp
    · cases hs
  · rename_i x hop; cases hs; exact s_nilc hr ht hop he
  · rename_i op ty x y ty' hop
    split at hs
    · rename_i fs hu
      split at hs
      · rename_i ks hk
        split at hs
        · rename_i hc
          split at hs
          · cases hs; exact s_eqs (neg := false) hr ht hu hk hc.1 hc.2 hop he
          · cases hs; exact s_eqs (neg := true) hr ht hu hk hc.1 hc.2 hop he
          · cases hs
        · cases hs
      · cases hs; simp [eff] at he
    · cases hs; exact s_bin hr ht hop he hp
    · cases hs; exact s_bin hr ht hop he hp
    · rename_i hu
      split at hs
      · cases hs; exact s_eqb (neg := false) hr ht hu hop he
      · cases hs; exact s_eqb (neg := true) hr ht hu hop he
      · cases hs
    · split at hs
      · cases hs; simp [eff] at he
      · cases hs; simp [eff] at he
      · cases hs
    · cases hs
  · rename_i op ty x hop; cases hs; exact s_un hr ht hop he
  · rename_i src dst x hop
    split at hs
    · rename_i k0 k h1 h2; cases hs; exact s_conv hr ht h1 h2 hop he
    · split at hs
      · cases hs; simp [eff] at he
      · cases hs
    · rename_i el h1 h2
      split at hs
      · rename_i h3; cases hs; exact s_b2s hr ht h1 h3 h2 hop he hp
      · cases hs
    · cases hs
  · rename_i f first caps hop
    split at hs
    · rename_i hf; cases hs; exact s_mkfn hr ht hf hop he
    · split at hs
      · rename_i hf; cases hs; exact s_mkmfn hr ht hf hop he
      · cases hs
  · rename_i ty hop; cases hs; exact s_mkmap hr hn hop he
  · rename_i ty m k hop
    split at hs
    · rename_i kt et hu
      split at hs
      · rename_i kk z hk hz
        cases hs
        refine s_look hr ht hu hk ?_ hop he
        unfold zeroVal at hz
        split at hz
        · rename_i i hi; exact ⟨i, hi, hz⟩
        · cases hz
      · cases hs
    · cases hs
  · rename_i ty m k hop
    split at hs
    · rename_i kt et hu
      split at hs
      · rename_i kk z hk hz
        cases hs
        refine s_look2 hr ht hu hk ?_ hop he
        unfold zeroVal at hz
        split at hz
        · rename_i i hi; exact ⟨i, hi, hz⟩
        · cases hz
      · cases hs
    · cases hs
  · rename_i ty m k x hop
    split at hs
    · rename_i kt et hu
      split at hs
      · rename_i kk hk; cases hs; exact s_mput hr ht hu hk hop he
      · cases hs
    · cases hs
  · rename_i ty m k x hop
    split at hs
    · rename_i kt et hu
      split at hs
      · rename_i kk hk; cases hs; exact s_insert hr ht hu hk hop he
      · cases hs
    · cases hs
  · rename_i ty l c hop
    split at hs
    · rename_i el hu
      split at hs
      · rename_i zs sz by_ hz hsz hb
        split at hs
        · rename_i hc; cases hs; exact s_mkslice hr ht hn ⟨hu, hz, hsz, hb, hc.1, hc.2.1⟩ hc.2.2 hop he hp
        · cases hs
      · cases hs
    · cases hs
  · rename_i ty x lo hi mx hop
    split at hs
    · rename_i el hu
      split at hs
      · rename_i sz hsz; cases hs; exact s_slice hr ht hn hu hsz hop he hp
      · cases hs
    · rename_i hu
      split at hs
      · cases hs; exact s_sslice hr ht hu hop he hp
      · cases hs
    · rename_i n el hu
      split at hs
      · split at hs
        · rename_i sz hsz; cases hs; exact s_sarr hr ht hu hsz hop he
        · cases hs
      · cases hs
    · cases hs
  · rename_i ty x f hop
    split at hs
    · rename_i fs hu
      split at hs
      · rename_i fd hf
        split at hs
        · rename_i sz hsz
          split at hs
          · cases hs
          · rename_i hne; cases hs; exact s_faddr hr ht hu hf hsz hne hop he hp
        · cases hs
      · cases hs
    · cases hs
  · rename_i ty x f hop
    split at hs
    · rename_i fs hu
      split at hs
      · rename_i fd hf
        split at hs
        · rename_i sz ag hsz ha; cases hs; exact s_fld hr ht hu hf hsz ha hop he
        · cases hs
      · cases hs
    · cases hs
  · rename_i ty x i hop
    split at hs
    · rename_i el hu
      split at hs
      · rename_i sz hsz; cases hs; exact s_iaddr hr ht hu hsz hop he hp
      · cases hs
    · rename_i n el hu
      split at hs
      · rename_i sz hsz; cases hs; exact s_iaddrA hr ht hu hsz hop he hp
      · cases hs
    · cases hs
  · rename_i ty x i hop
    split at hs
    · rename_i n el hu
      split at hs
      · rename_i sz ag hsz ha; cases hs; exact s_idx hr ht hu hsz ha hop he hp
      · cases hs
    · rename_i hu; cases hs; exact s_idxs hr ht hu hop he hp
    · cases hs
  · rename_i x i hop; cases hs; exact s_ext hr ht hop he
  · cases hs; simp [eff] at he
  · cases hs; simp [eff] at he
  · rename_i c hop
    split at hs
    · cases hs; simp [eff] at he
    · rename_i hc
      split at hs
      · rename_i ty x h2 h3
        split at hs
        · rename_i el hu; cases hs; exact s_len hr ht hu hc h2 h3 hop he
        · rename_i hu; cases hs; exact s_slen hr ht hu hc h2 h3 hop he
        · cases hs
      · cases hs
    · rename_i hc
      split at hs
      · rename_i ty x h2 h3
        split at hs
        · rename_i el hu; cases hs; exact s_cap hr ht hu hc h2 h3 hop he
        · cases hs
      · cases hs
    · rename_i hc
      split at hs
      · rename_i ty ty' s x h2 h3
        have h2' : c.argTypes = #[ty, ty'] := Array.toList_inj.1 (by simpa using h2)
        have h3' : c.args = #[s, x] := Array.toList_inj.1 (by simpa using h3)
        split at hs
        · rename_i hty
          subst hty
          split at hs
          · rename_i el hu
            split at hs
            · rename_i zs sz by_ hz hsz hb
              split at hs
              · rename_i hcc; cases hs; exact s_app hr ht hn ⟨hu, hz, hsz, hb, hcc.1, hcc.2⟩ hc h2' h3' hop he hp
              · cases hs
            · cases hs
          · cases hs
        · split at hs
          · rename_i el q hu hti
            split at hs
            · rename_i zs sz by_ hz hsz hb
              split at hs
              · rename_i hcc; cases hs; exact s_appz hr ht hn ⟨hu, hz, hsz, hb, hcc.1, hcc.2.1⟩ hcc.2.2 hti hc h2' h3' hop he hp
              · cases hs
            · cases hs
          · cases hs
      · cases hs
    · rename_i hc
      split at hs
      · rename_i ty x h2 h3
        split at hs
        · rename_i el hu
          split at hs
          · rename_i zs sz hz hsz
            split at hs
            · rename_i hcc; cases hs; exact s_clr hr ht hu hz hsz hcc.1 hcc.2.2 hc h2 h3 hop he hp
            · cases hs
          · cases hs
        · cases hs
      · cases hs
    · rename_i hc; cases hs; exact s_minmax (mx := true) hr ht hc hop he
    · rename_i hc; cases hs; exact s_minmax (mx := false) hr ht hc hop he
    · rename_i hc
      split at hs
      · rename_i ty d x h2 h3
        have h3' : c.args = #[d, x] := Array.toList_inj.1 (by simpa using h3)
        split at hs
        · rename_i el hu
          split at hs
          · rename_i sz hsz
            split at hs
            · rename_i hpos; cases hs; exact s_copy hr ht hu hsz hpos hc h2 h3' hop he hp
            · cases hs; simp [eff] at he
          · cases hs; simp [eff] at he
        · cases hs; simp [eff] at he
      · cases hs; simp [eff] at he
    · cases hs
  · cases hs
end
end Go.Eng
