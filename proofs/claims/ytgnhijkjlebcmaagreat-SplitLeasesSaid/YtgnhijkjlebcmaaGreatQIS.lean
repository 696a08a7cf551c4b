/-
  slices.Insert ahead of a slice's end: in place where there is room, else in a new block.
  No condition.
-/
import Derived.Test.YtgnhijkjlebcmaaGreatMemFS
import Derived.Test.YtgnhijkjlebcmaaGreatProg
import Derived.WalkKit
import Derived.RegionTactic
import Derived.Laws.Externs
import Derived.Laws.CopyRow
import Derived.Laws.NewBlocks
import Derived.Shelf.RegionOpenPlain
import Derived.KernelRfl
set_option linter.all false
set_option maxRecDepth 100000
set_option maxHeartbeats 8000000
namespace Go.M
open Go Go.Proofs
section
variable {P : Program}
theorem wpL_exec (w : World) {ops : Array Oper} {rest : List Oper} {o : Oper} {a : Act} {Q : Exit → Act → World → Prop} (hgd : o.guard = none) {v' : Value} {w' : World} (hr : (execOp a.eval o).run P w = .ok (.value v') w')
    (h : wpList P ops Q rest (a.put o.dst v') w') : wpList P ops Q (o :: rest) a w :=
  wpList_plain hgd fun _ hK => by
    unfold Oper.wp
    rw [hr]
    exact hK _ _ h
theorem step_exec {ops : Array Oper} {o : Oper} {a : Act} {w : World} {K : Act → World → Prop} {Q : Exit → Act → World → Prop} {E : Prop} (hg : o.guard = none) {v' : Value} {w' : World} (hr : (execOp a.eval o).run P w = .ok (.value v') w')
    (hK : K (a.put o.dst v') w') : if Region.wanted o (yielded ops a.tmps) = true then Oper.wp P o a w K Q else E := by
  have hw : Region.wanted o (yielded ops a.tmps) = true := by simp [Region.wanted, hg]
  rw [if_pos hw]
  unfold Oper.wp
  rw [hr]
  exact hK
theorem exec_copy {ev : Operand → Value} {o : Oper} {d s : Operand} {t t' : TypeId} {v u v' : Value} {w w' : World} (ho : o.op = .call { callee := .builtin .copy, args := #[d, s], argTypes := #[t, t'] }) (hd : ev d = v) (hs : ev s = u)
    (hr : (Builtin.copy_ #[t, t'] o.type #[v, u]).run P w = .ok v' w') : (execOp ev o).run P w = .ok (.value v') w' := by
  unfold execOp
  simp only [ho, resolve, invoke, builtin, Sem.run_bind, Sem.run_pure, Result.andThen_ok, List.map_toArray, List.map_cons, List.map_nil, hd, hs, hr]
theorem exec_app {ev : Operand → Value} {o : Oper} {d s : Operand} {t t' : TypeId} {v u v' : Value} {w w' : World} (ho : o.op = .call { callee := .builtin .append, args := #[d, s], argTypes := #[t, t'] }) (hd : ev d = v) (hs : ev s = u)
    (hr : (Builtin.append_ #[t, t'] o.type #[v, u]).run P w = .ok v' w') : (execOp ev o).run P w = .ok (.value v') w' := by
  unfold execOp
  simp only [ho, resolve, invoke, builtin, Sem.run_bind, Sem.run_pure, Result.andThen_ok, List.map_toArray, List.map_cons, List.map_nil, hd, hs, hr]
theorem step_copyK {ops : Array Oper} {o : Oper} {a : Act} {w : World} {K : Act → World → Prop} {Q : Exit → Act → World → Prop} {E : Prop} (hg : o.guard = none) (d x : Operand) (dT sT : TypeId) (hop : o.op = Op.call { callee := Callee.builtin Builtin.copy, args := #[d, x], argTypes := #[dT, sT] })
    (v u : Value) (hd : a.eval d = v) (hx : a.eval x = u) {v' : Value} {w' : World} (hr : (Builtin.copy_ #[dT, sT] o.type #[v, u]).run P w = .ok v' w') (hK : K (a.put o.dst v') w') :
    if Region.wanted o (yielded ops a.tmps) = true then Oper.wp P o a w K Q else E := step_exec hg (exec_copy hop hd hx hr) hK
theorem wpL_copyK (w : World) {ops : Array Oper} {rest : List Oper} {o : Oper} {a : Act} {Q : Exit → Act → World → Prop} (hgd : o.guard = none) (d x : Operand) (dT sT : TypeId) (hop : o.op = Op.call { callee := Callee.builtin Builtin.copy, args := #[d, x], argTypes := #[dT, sT] })
    (v u : Value) (hd : a.eval d = v) (hx : a.eval x = u) {v' : Value} {w' : World} (hr : (Builtin.copy_ #[dT, sT] o.type #[v, u]).run P w = .ok v' w') (h : wpList P ops Q rest (a.put o.dst v') w') : wpList P ops Q (o :: rest) a w := wpL_exec w hgd (exec_copy hop hd hx hr) h
theorem wpL_appK (w : World) {ops : Array Oper} {rest : List Oper} {o : Oper} {a : Act} {Q : Exit → Act → World → Prop} (hgd : o.guard = none) (d x : Operand) (dT sT : TypeId) (hop : o.op = Op.call { callee := Callee.builtin Builtin.append, args := #[d, x], argTypes := #[dT, sT] })
    (v u : Value) (hd : a.eval d = v) (hx : a.eval x = u) {v' : Value} {w' : World} (hr : (Builtin.append_ #[dT, sT] o.type #[v, u]).run P w = .ok v' w') (h : wpList P ops Q rest (a.put o.dst v') w') : wpList P ops Q (o :: rest) a w := wpL_exec w hgd (exec_app hop hd hx hr) h
theorem run_copy_k (w : World) {dT sT ty elem : TypeId} {k b o dLen dCap : Nat} {a : Addr} {sLen sCap : Nat} {cells : Array Value} {t : TypeId} {cs : List Value} (hu : P.underlying dT = some (.slice elem)) (hs : ∀ w, (sizeOf elem).run P w = .ok k w)
    (hg : w.heap[b]? = some (.cells cells t (0, 0))) (hn : cs.length = Nat.min sLen dLen * k) (hsrc : ∀ (j : Nat) (v : Value), cs[j]? = some v → w.cell? (a.add j) = some v) (hfit : o + cs.length ≤ cells.size) (h1 : ∀ v ∈ cs, one v) :
    (Builtin.copy_ #[dT, sT] ty #[.slice (some ⟨b, o, none⟩) dLen dCap, .slice (some a) sLen sCap]).run P w = .ok (goInt ((Nat.min sLen dLen : Nat) : Int)) (w.setRow b (Go.Eng.pasted cells o cs.toArray)) := by
  have hst := run_storeCells_at P b o t cs 0 cells w hg (by simpa using hfit) h1
  have hfc : (Builtin.firstCells k (Nat.min sLen dLen) (.slice (some a) sLen sCap)).run P w = .ok cs.toArray w := run_firstCells_some w k _ a sLen sCap cs hn hsrc
  simp only [Nat.add_zero, List.append_assoc] at hst
  simp [Builtin.copy_, run_underlying hu, Builtin.lenOf, hs, hfc, hst, Go.Eng.pasted, goInt]
theorem run_app_zeros (w : World) {t tn ty e : TypeId} {i : TypeInfo} {z : Value} {kn : IntKind} (ht : P.underlying t = some (.slice e)) (htn : P.underlying tn = some (.int kn)) (hi : P.info? e = some i) (hz : i.zero = some z)
    {base : Option Addr} {sLen sCap : Nat} {olds : List Value} (hold : (Builtin.firstCells i.size sLen (.slice base sLen sCap)).run P w.drew = .ok olds.toArray w.drew)
    {k : Nat} (h0 : 0 < k) (hs : 0 < i.size) (hg : sCap < sLen + k) (h63 : ((sLen + k : Nat) : Int) ≤ 9223372036854775807) (h48 : k * i.bytes ≤ 281474976710656) (hfit : Builtin.nextslicecap (sLen + k) sCap * i.bytes ≤ 281474976710656) :
    (Builtin.append_ #[t, tn] ty #[.slice base sLen sCap, .int .i64 k]).run P w =
      .ok (.slice (some ⟨w.heap.size, 0, none⟩) (sLen + k) (grownCap w (sLen + k) sCap e))
        (w.drew.alloc (.cells (olds.toArray ++ Builtin.zeroCells z.cells k ++ Builtin.zeroCells z.cells (grownCap w (sLen + k) sCap e - (sLen + k))) e)) := by
  have hw : IntKind.i64.wrap (k : Int) = k := by rw [IntKind.wrap_i64]; omega
  have a1 : ¬ (sLen + k ≤ sCap) := by omega
  have a2 : ¬ (9223372036854775807 < ((sLen : Int) + (k : Int))) := by omega
  have a3 : ¬ (281474976710656 < Builtin.nextslicecap (sLen + k) sCap * i.bytes) := by omega
  have a4 : ¬ (281474976710656 < (k : Int) * (i.bytes : Int)) := by
    rw [← Int.natCast_mul]
    omega
  have a5 : ¬ ((k : Int) < 0) := by omega
  have a6 : ¬ (k * i.size = 0) := Nat.mul_ne_zero (by omega) (by omega)
  simp [Builtin.append_, run_underlying ht, run_underlying htn, sizeOf, typeInfo, zeroValue, hi, hz, asInt, asIntOf, hw, a1, a5, a6, a2, a3, a4, Question.forced, hold, newRow, grownCap]
theorem over_m4.{u} {motive : Array Value → Sort u} (a b : Option Addr) (la ca lb cb : Nat) (h1 : ∀ (a : Option Addr) (la ca : Nat) (b : Option Addr) (lb cb : Nat), motive #[Value.slice a la ca, Value.slice b lb cb]) (h2 : ∀ x, motive x) :
    Extern.SlicesOverlaps.overlaps.match_4 motive #[Value.slice a la ca, Value.slice b lb cb] h1 h2 = h1 a la ca b lb cb := rfl
theorem run_over (w : World) (tS tR e : TypeId) (ht : P.underlying tS = some (.slice e)) (size : Nat) (hz : ∀ w, (sizeOf e).run P w = .ok size w) (a b : Addr) (la ca lb cb : Nat) (hne : a.block ≠ b.block) {ca' cb' : Array Value} {ta tb : TypeId}
    (ha : w.heap[a.block]? = some (.cells ca' ta (0, 0))) (hb : w.heap[b.block]? = some (.cells cb' tb (0, 0))) (hpos : 0 < cb'.size) :
    (Extern.SlicesOverlaps.overlaps #[tS, tS] #[tR] #[.slice (some a) la ca, .slice (some b) lb cb]).run P w = .ok (.bool false) w := by
  have h1 : (a.block != b.block) = true := by simpa using hne
  have h2 : (a.block == b.block) = false := by simpa using hne
  have hsa : w.shape? a.block = some (ta, ca'.size) := by simp [World.shape?, ha]
  have hsb : w.shape? b.block = some (tb, cb'.size) := by simp [World.shape?, hb]
  have hfa : ∀ i s, w.frozen? ⟨a.block, i, s⟩ = false := fun i s => by simp [World.frozen?, ha]
  have hfa' : w.frozen? a = false := hfa a.off a.spot
  obtain ⟨kB, hkB⟩ : ∃ k, cb'.size = k + 1 := ⟨cb'.size - 1, by omega⟩
  rw [hkB] at hsb
  by_cases h0 : la = 0 ∨ lb = 0 ∨ size = 0
  · delta Extern.SlicesOverlaps.overlaps
    rw [over_m4]
    simp [run_underlying ht, hz, h0]
  · delta Extern.SlicesOverlaps.overlaps
    rw [over_m4]
    simp [run_underlying ht, hz, h0, h1, h2, frozen, noView, viewAt, mayBeOne, stringish, shape, Sem.run, hsa, hsb, hfa', hfa]
end
variable [Ctxt]
theorem ins413_shift (b n c i vb vo m vc : Nat) (cells : Array Value) (t : TypeId) (cs vs : List Value) (vcells : Array Value) (vt : TypeId) (w : World) (hi : i < n) (hm : 0 < m) (hroom : n + m ≤ c) (hnb : n + m < 1048576) (hvb : vb ≠ b) (hg : w.heap[b]? = some (.cells cells t (0, 0))) (hsz : cells.size = c * 3) (hcl : cs.length = n * 3) (hcs : ∀ (j : Nat) (v : Value), cs[j]? = some v → cells[j]? = some v) (h1c : ∀ v ∈ cs, one v)
    (hvg : w.heap[vb]? = some (.cells vcells vt (0, 0))) (hvl : vs.length = m * 3) (hvs : ∀ (j : Nat) (v : Value), vs[j]? = some v → vcells[vo + j]? = some v) (h1v : ∀ v ∈ vs, one v) :
    Calls Tryz.prog 413 #[.slice (some ⟨b, 0, none⟩) n c, .int .i64 (i : Int), .slice (some ⟨vb, vo, none⟩) m vc] w fun e w' => e = .returned (.slice (some ⟨b, 0, none⟩) (n + m) c) ∧
      w'.heap = ((w.setRow b (Go.Eng.pasted cells ((i + m) * 3) (cs.drop (i * 3)).toArray)).setRow b (Go.Eng.pasted (Go.Eng.pasted cells ((i + m) * 3) (cs.drop (i * 3)).toArray) (i * 3) vs.toArray)).heap ∧ w'.os = w.os ∧ w'.tape = w.tape ∧ w'.output = w.output := by
  have hz1 : ¬ ((m : Int) = 0) := by omega
  have hz2 : ¬ ((i : Int) = (n : Int)) := by omega
  have hov : ∀ o lb cb, (callFunc 435 #[.slice (some ⟨vb, vo, none⟩) m vc, .slice (some ⟨b, o, none⟩) lb cb]).run Tryz.prog w = .ok (.value (.bool false)) w := fun o lb cb => by
    rw [run_callFunc_extern Tryz.func435 (by kernel_rfl) (by kernel_rfl) (by kernel_rfl) (e := Extern.SlicesOverlaps.overlaps #[34, 34] #[4]) (by kernel_rfl),
      run_over w 34 4 119 Tryz.underlying34 3 Tryz.sizeOf119 ⟨vb, vo, none⟩ ⟨b, o, none⟩ m vc lb cb hvb hvg hg (by rw [hsz]; omega)]
    rfl
  have hdl : (cs.drop (i * 3)).length = (n - i) * 3 := by rw [List.length_drop, hcl, Nat.sub_mul]
  have hw1 : IntKind.i64.wrap ((i : Int) + (m : Int)) = (i : Int) + (m : Int) := by rw [IntKind.wrap_i64]; omega
  have hw2 : IntKind.i64.wrap ((n : Int) + (m : Int)) = (n : Int) + (m : Int) := by rw [IntKind.wrap_i64]; omega
  have hb1 : (0 : Int) ≤ (i : Int) + (m : Int) := by omega
  have hin : i ≤ n := by omega
  have htn : ((i : Int) + (m : Int)).toNat = i + m := by omega
  have htn2 : ((n : Int) + (m : Int)).toNat = n + m := by omega
  have hb2 : ¬ (c = i + m) := by omega
  have hb3 : (i : Int) ≤ (n : Int) + (m : Int) := by omega
  have hb4 : ¬ (c = i) := by omega
  have hb5 : ¬ ((c : Int) < (n : Int) + (m : Int)) := by omega
  have hcp1 : ∀ (W : World), W.heap = w.heap → ∀ ty dc sc, (Builtin.copy_ #[34, 34] ty #[.slice (some ⟨b, (i + m) * 3, none⟩) (n + m - (i + m)) dc, .slice (some ⟨b, i * 3, none⟩) (n + m - i) sc]).run Tryz.prog W = .ok (goInt ((n - i : Nat) : Int)) (W.setRow b (Go.Eng.pasted cells ((i + m) * 3) (cs.drop (i * 3)).toArray)) := fun W hW ty dc sc => by
    have hmn : Nat.min (n + m - i) (n + m - (i + m)) = n - i := by simp only [Nat.min_def]; split <;> omega
    have hgW : W.heap[b]? = some (.cells cells t (0, 0)) := by rw [hW]; exact hg
    have := run_copy_k (P := Tryz.prog) W (dT := 34) (sT := 34) (ty := ty) (k := 3) (b := b) (o := (i + m) * 3) (dLen := n + m - (i + m)) (dCap := dc) (a := ⟨b, i * 3, none⟩) (sLen := n + m - i) (sCap := sc) (cells := cells) (t := t) (cs := cs.drop (i * 3)) Tryz.underlying34 Tryz.sizeOf119 hgW (by rw [hdl, hmn])
      (fun j v hj => by rw [add_at, Go.Eng.cell_heap hgW]; exact hcs (i * 3 + j) v (by rwa [List.getElem?_drop] at hj)) (by rw [hdl, hsz]; omega) (fun v hv => h1c v (List.mem_of_mem_drop hv))
    rw [hmn] at this
    exact this
  obtain ⟨C1, hC1⟩ : ∃ C1, C1 = Go.Eng.pasted cells ((i + m) * 3) (cs.drop (i * 3)).toArray := ⟨_, rfl⟩
  have hC1s : C1.size = c * 3 := by rw [hC1, Go.Eng.pasted_size _ _ _ (by simp [hdl, hsz]; omega), hsz]
  rw [← hC1] at hcp1 ⊢
  have hcp2 : ∀ (W : World), W.heap = (w.setRow b C1).heap → ∀ ty dc, (Builtin.copy_ #[34, 34] ty #[.slice (some ⟨b, i * 3, none⟩) (n + m - i) dc, .slice (some ⟨vb, vo, none⟩) m vc]).run Tryz.prog W = .ok (goInt ((m : Nat) : Int)) (W.setRow b (Go.Eng.pasted C1 (i * 3) vs.toArray)) := fun W hW ty dc => by
    have hg1 : W.heap[b]? = some (.cells C1 t (0, 0)) := by rw [hW]; exact setRow_heap w b cells C1 t (0, 0) hg
    have hvg1 : W.heap[vb]? = some (.cells vcells vt (0, 0)) := by rw [hW, Go.Eng.heap_setRow_other w b vb C1 hvb]; exact hvg
    have hmn : Nat.min m (n + m - i) = m := by simp only [Nat.min_def]; split <;> omega
    have := run_copy_k (P := Tryz.prog) W (dT := 34) (sT := 34) (ty := ty) (k := 3) (b := b) (o := i * 3) (dLen := n + m - i) (dCap := dc) (a := ⟨vb, vo, none⟩) (sLen := m) (sCap := vc) (cells := C1) (t := t) (cs := vs) Tryz.underlying34 Tryz.sizeOf119 hg1 (by rw [hvl, hmn])
      (fun j v hj => by rw [add_at, Go.Eng.cell_heap hvg1]; exact hvs j v hj) (by rw [hvl, hC1s]; omega) h1v
    rw [hmn] at this
    exact this
  clear hC1 hC1s hdl hcs hvs hg hvg
  have mixed : Tryz.prog.follows Departure.mixedOrders = true := by kernel_rfl
  go_enter Tryz.func413, Tryz.ntmps413
  go_wp2_with (simp only [hov])
  go_region_law_o (refine step_copyK rfl _ _ 34 34 rfl (.slice (some ⟨b, (i + m) * 3, none⟩) (n + m - (i + m)) (c - (i + m))) (.slice (some ⟨b, i * 3, none⟩) (n + m - i) (c - i)) (by simp [Act.eval, Act.put]) (by simp [Act.eval, Act.put]) (hcp1 _ (by rfl) _ _ _) ?_)
  go_wp2_with (refine wpL_copyK _ rfl _ _ 34 34 rfl _ _ rfl rfl (hcp2 _ (by rfl) _ _) ?_)
  go_ret
  exact ⟨rfl, rfl, rfl, rfl, rfl⟩
theorem ins413_grow (b n c i vb vo m vc : Nat) (cells : Array Value) (t : TypeId) (cs vs : List Value) (vcells : Array Value) (vt : TypeId) (w : World) (hi : i < n) (hm : 0 < m) (hnc : n ≤ c) (hroom : c < n + m) (hnb : n + m < 1048576) (hbig : (n + m) * 24 ≤ 140737488355328) (hvb : vb ≠ b) (hg : w.heap[b]? = some (.cells cells t (0, 0))) (hsz : cells.size = c * 3) (hcl : cs.length = n * 3) (hcs : ∀ (j : Nat) (v : Value), cs[j]? = some v → cells[j]? = some v) (h1c : ∀ v ∈ cs, one v)
    (hvg : w.heap[vb]? = some (.cells vcells vt (0, 0))) (hvl : vs.length = m * 3) (hvs : ∀ (j : Nat) (v : Value), vs[j]? = some v → vcells[vo + j]? = some v) (h1v : ∀ v ∈ vs, one v) :
    Calls Tryz.prog 413 #[.slice (some ⟨b, 0, none⟩) n c, .int .i64 (i : Int), .slice (some ⟨vb, vo, none⟩) m vc] w fun e w' => ∃ G ROW, n + m ≤ G ∧ ROW.size = G * 3 ∧ (∀ (j : Nat), j < i * 3 → ROW[j]? = cs[j]?) ∧ e = .returned (.slice (some ⟨w.heap.size, 0, none⟩) (n + m) G) ∧
      w'.heap = (((w.alloc (.cells ROW 119)).setRow w.heap.size (Go.Eng.pasted ROW (i * 3) vs.toArray)).setRow w.heap.size (Go.Eng.pasted (Go.Eng.pasted ROW (i * 3) vs.toArray) ((i + m) * 3) (cs.drop (i * 3)).toArray)).heap ∧ w'.os = w.os ∧ w'.tape = w.tape ∧ w'.output = w.output := by
  have hz1 : ¬ ((m : Int) = 0) := by omega
  have hz2 : ¬ ((i : Int) = (n : Int)) := by omega
  have hz3 : (c : Int) < (n : Int) + (m : Int) := by omega
  have hbw : b < w.heap.size := (Array.getElem?_eq_some_iff.1 hg).1
  have hvw : vb < w.heap.size := (Array.getElem?_eq_some_iff.1 hvg).1
  have hdl : (cs.drop (i * 3)).length = (n - i) * 3 := by rw [List.length_drop, hcl, Nat.sub_mul]
  have htl : (cs.take (i * 3)).length = i * 3 := by rw [List.length_take, hcl]; omega
  have hkk : (n : Int) + (m : Int) - (i : Int) = ((n + m - i : Nat) : Int) := by omega
  have hik : i + (n + m - i) = n + m := by omega
  have hE : Go.Eng.El Tryz.prog 34 119 3 24 [(.int .i64 0), (.int .i64 0), (.int .i64 0)] := ⟨Tryz.underlying34, by kernel_rfl, by kernel_rfl, by kernel_rfl, by kernel_rfl, by decide⟩
  obtain ⟨ti, zz, hti, htz, hts, htb, hzc, _⟩ := hE.info
  have hold : (Builtin.firstCells ti.size i (.slice (some ⟨b, 0, none⟩) i c)).run Tryz.prog w.drew = .ok (cs.take (i * 3)).toArray w.drew := by
    rw [hts]
    exact run_firstCells_some w.drew 3 i ⟨b, 0, none⟩ i c (cs.take (i * 3)) htl (fun j v hj => by
      rw [List.getElem?_take] at hj
      split at hj
      · rw [add_at, Go.Eng.cell_heap (show w.drew.heap[b]? = _ from hg), Nat.zero_add]; exact hcs j v hj
      · cases hj)
  obtain ⟨G, hG⟩ : ∃ G, G = grownCap w (n + m) c 119 := ⟨_, rfl⟩
  obtain ⟨ROW, hROW⟩ : ∃ ROW : Array Value, ROW = (cs.take (i * 3)).toArray ++ Builtin.zeroCells zz.cells (n + m - i) ++ Builtin.zeroCells zz.cells (G - (n + m)) := ⟨_, rfl⟩
  have hGn : n + m ≤ G := by rw [hG]; exact grownCap_ge w _ _ _
  have hRs : ROW.size = G * 3 := by
    rw [hROW, Array.size_append, Array.size_append, size_zeroCells, size_zeroCells, hzc, List.size_toArray, htl]; omega
  have hrz : ∀ ty, (Builtin.append_ #[34, 3] ty #[.slice (some ⟨b, 0, none⟩) i c, .int .i64 ((n : Int) + (m : Int) - (i : Int))]).run Tryz.prog w =
      .ok (.slice (some ⟨w.heap.size, 0, none⟩) (n + m) G) (w.drew.alloc (.cells ROW 119)) := fun ty => by
    have h := run_app_zeros (P := Tryz.prog) w (ty := ty) Tryz.underlying34 Tryz.underlying3 hti htz hold (k := n + m - i) (by omega) (by omega) (by omega) (by omega) (by rw [htb]; omega) (by rw [htb, hik]; exact growslice_fits hroom hbig)
    rw [hik, ← hG, ← hROW] at h
    rw [hkk]
    exact h
  have hR0 : ∀ (j : Nat), j < i * 3 → ROW[j]? = cs[j]? := fun j hj => by
    rw [hROW, Array.append_assoc, Array.getElem?_append, if_pos (by rw [List.size_toArray, htl]; exact hj), List.getElem?_toArray, List.getElem?_take, if_pos hj]
  obtain ⟨H1, hH1⟩ : ∃ H1, H1 = (w.drew.alloc (.cells ROW 119)).heap := ⟨_, rfl⟩
  have hN : (w.alloc (.cells ROW 119)).heap[w.heap.size]? = some (.cells ROW 119 (0, 0)) := heap_new w _
  have hOb : (w.alloc (.cells ROW 119)).heap[b]? = some (.cells cells t (0, 0)) := by rw [heap_old w _ hbw]; exact hg
  have hOv : (w.alloc (.cells ROW 119)).heap[vb]? = some (.cells vcells vt (0, 0)) := by rw [heap_old w _ hvw]; exact hvg
  have hcpA : ∀ (W : World), W.heap = (w.alloc (.cells ROW 119)).heap → ∀ ty dc, (Builtin.copy_ #[34, 34] ty #[.slice (some ⟨w.heap.size, i * 3, none⟩) (n + m - i) dc, .slice (some ⟨vb, vo, none⟩) m vc]).run Tryz.prog W = .ok (goInt ((m : Nat) : Int)) (W.setRow w.heap.size (Go.Eng.pasted ROW (i * 3) vs.toArray)) := fun W hW ty dc => by
    have hmn : Nat.min m (n + m - i) = m := by simp only [Nat.min_def]; split <;> omega
    have := run_copy_k (P := Tryz.prog) W (dT := 34) (sT := 34) (ty := ty) (k := 3) (b := w.heap.size) (o := i * 3) (dLen := n + m - i) (dCap := dc) (a := ⟨vb, vo, none⟩) (sLen := m) (sCap := vc) (cells := ROW) (t := 119) (cs := vs) Tryz.underlying34 Tryz.sizeOf119 (by rw [hW]; exact hN) (by rw [hvl, hmn])
      (fun j v hj => by rw [add_at, Go.Eng.cell_heap (show W.heap[vb]? = _ by rw [hW]; exact hOv)]; exact hvs j v hj) (by rw [hvl, hRs]; omega) h1v
    rw [hmn] at this
    exact this
  obtain ⟨C1, hC1⟩ : ∃ C1, C1 = Go.Eng.pasted ROW (i * 3) vs.toArray := ⟨_, rfl⟩
  have hC1s : C1.size = G * 3 := by rw [hC1, Go.Eng.pasted_size _ _ _ (by simp [hvl, hRs]; omega), hRs]
  rw [← hC1] at hcpA
  have hbN : b ≠ w.heap.size := by omega
  have hcpB : ∀ (W : World), W.heap = ((w.alloc (.cells ROW 119)).setRow w.heap.size C1).heap → ∀ ty dc sc, (Builtin.copy_ #[34, 34] ty #[.slice (some ⟨w.heap.size, (i + m) * 3, none⟩) (n + m - (i + m)) dc, .slice (some ⟨b, i * 3, none⟩) (n - i) sc]).run Tryz.prog W = .ok (goInt ((n - i : Nat) : Int)) (W.setRow w.heap.size (Go.Eng.pasted C1 ((i + m) * 3) (cs.drop (i * 3)).toArray)) := fun W hW ty dc sc => by
    have hmn : Nat.min (n - i) (n + m - (i + m)) = n - i := by simp only [Nat.min_def]; split <;> omega
    have hgb : W.heap[b]? = some (.cells cells t (0, 0)) := by rw [hW, Go.Eng.heap_setRow_other _ _ _ _ hbN]; exact hOb
    have := run_copy_k (P := Tryz.prog) W (dT := 34) (sT := 34) (ty := ty) (k := 3) (b := w.heap.size) (o := (i + m) * 3) (dLen := n + m - (i + m)) (dCap := dc) (a := ⟨b, i * 3, none⟩) (sLen := n - i) (sCap := sc) (cells := C1) (t := 119) (cs := cs.drop (i * 3)) Tryz.underlying34 Tryz.sizeOf119 (by rw [hW]; exact setRow_heap _ w.heap.size ROW C1 119 (0, 0) hN) (by rw [hdl, hmn])
      (fun j v hj => by rw [add_at, Go.Eng.cell_heap hgb]; exact hcs (i * 3 + j) v (by rwa [List.getElem?_drop] at hj)) (by rw [hdl, hC1s]; omega) (fun v hv => h1c v (List.mem_of_mem_drop hv))
    rw [hmn] at this
    exact this
  have hG63 : G ≤ 9223372036854775807 := by
    have := grownCap_le_maxLen w (n + m) c 119 (by unfold maxLen; omega)
    rw [← hG] at this
    unfold maxLen at this
    omega
  refine Calls.mono ?_ (fun e w' (h : e = .returned (.slice (some ⟨w.heap.size, 0, none⟩) (n + m) G) ∧ w'.heap = (((w.alloc (.cells ROW 119)).setRow w.heap.size C1).setRow w.heap.size (Go.Eng.pasted C1 ((i + m) * 3) (cs.drop (i * 3)).toArray)).heap ∧ w'.os = w.os ∧ w'.tape = w.tape ∧ w'.output = w.output) => ⟨G, ROW, hGn, hRs, hR0, h.1, hC1 ▸ h.2.1, h.2.2⟩)
  have hw1 : IntKind.i64.wrap ((i : Int) + (m : Int)) = (i : Int) + (m : Int) := by rw [IntKind.wrap_i64]; omega
  have hw2 : IntKind.i64.wrap ((n : Int) + (m : Int)) = (n : Int) + (m : Int) := by rw [IntKind.wrap_i64]; omega
  have hw3 : IntKind.i64.wrap ((n : Int) + (m : Int) - (i : Int)) = (n : Int) + (m : Int) - (i : Int) := by rw [IntKind.wrap_i64]; omega
  have hb1 : (0 : Int) ≤ (i : Int) + (m : Int) := by omega
  have hin : i ≤ n := by omega
  have htn : ((i : Int) + (m : Int)).toNat = i + m := by omega
  have hb3 : (i : Int) ≤ (n : Int) := by omega
  have hGi : ¬ (G = i) := by omega
  have hGim : ¬ (G = i + m) := by omega
  have hci : ¬ (c = i) := by omega
  clear hkk hik hold hROW hG hRs hR0 hN hOb hOv hE hti htz hts htb hzc hC1 hC1s hg hvg hcs hvs hdl htl
  have mixed : Tryz.prog.follows Departure.mixedOrders = true := by kernel_rfl
  go_enter Tryz.func413, Tryz.ntmps413
  go_wp2_with (first
    | (at_builtin; refine wpL_appK _ rfl _ _ 34 3 rfl _ _ rfl rfl (hrz _) ?_)
    | (refine wpL_copyK _ rfl _ _ 34 34 rfl _ _ rfl rfl (hcpA _ (by rfl) _ _) ?_)
    | (refine wpL_copyK _ rfl _ _ 34 34 rfl _ _ rfl rfl (hcpB _ (by rfl) _ _ _) ?_))
  go_region_law_o (refine step_copyK rfl _ _ 34 34 rfl (.slice (some ⟨w.heap.size, (i + m) * 3, none⟩) (n + m - (i + m)) (G - (i + m))) (.slice (some ⟨b, i * 3, none⟩) (n - i) (c - i)) (by simp [Act.eval, Act.put]) (by simp [Act.eval, Act.put]) (hcpB _ (by rfl) _ _ _) ?_)
  go_wp2
  go_ret
  exact ⟨rfl, rfl, rfl, rfl, rfl⟩
theorem insOk413 (hE : Enters Tryz.prog 413) : InsOk Tryz.prog 413 3 24 where
  enters := hE
  pos := by decide
  shift := fun b n c i vb vo m vc cells t cs vs vcells vt w hi hm hroom hnb hvb hg hsz hcl hcs h1c hvg hvl hvs h1v => (ins413_shift b n c i vb vo m vc cells t cs vs vcells vt w hi hm hroom hnb hvb hg hsz hcl hcs h1c hvg hvl hvs h1v).mono fun e w' ⟨h1, h2, h3⟩ => by
    have hc := ins_cells (a := i * 3) (d := m * 3) (q := n * 3) (u := c * 3) (Nat.mul_le_mul_right _ (by omega)) (by rw [← Nat.add_mul]; exact Nat.mul_le_mul_right _ hroom) hsz hcl hvl hcs
    rw [← Nat.add_mul] at hc
    refine ⟨h1, ⟨_, ?_, hc.1, hc.2⟩, fun k hk => ?_, ?_, h3⟩
    · rw [h2]; exact setRow_heap _ b _ _ t (0, 0) (setRow_heap w b cells _ t (0, 0) hg)
    · rw [h2, Go.Eng.heap_setRow_other _ _ _ _ hk, Go.Eng.heap_setRow_other _ _ _ _ hk]
    · rw [h2]; simp
  grow := fun b n c i vb vo m vc cells t cs vs vcells vt w hi hm hnc hroom hnb hbig hvb hg hsz hcl hcs h1c hvg hvl hvs h1v => (ins413_grow b n c i vb vo m vc cells t cs vs vcells vt w hi hm hnc hroom hnb hbig hvb hg hsz hcl hcs h1c hvg hvl hvs h1v).mono fun e w' ⟨G, ROW, hGn, hRs, hR0, h1, h2, h3⟩ => by
    have hc := ins_cells2 (a := i * 3) (d := m * 3) (q := n * 3) (u := G * 3) (vs := vs) (Nat.mul_le_mul_right _ (by omega)) (by rw [← Nat.add_mul]; exact Nat.mul_le_mul_right _ hGn) hRs hcl hvl hR0
    rw [← Nat.add_mul] at hc
    have hN : (w.alloc (.cells ROW 119)).heap[w.heap.size]? = some (.cells ROW 119 (0, 0)) := heap_new w _
    refine ⟨G, _, 119, hGn, h1, ?_, hc.1, hc.2, fun k hk => ?_, ?_, h3⟩
    · rw [h2]; exact setRow_heap _ _ _ _ 119 (0, 0) (setRow_heap _ _ ROW _ 119 (0, 0) hN)
    · rw [h2, Go.Eng.heap_setRow_other _ _ _ _ (by omega), Go.Eng.heap_setRow_other _ _ _ _ (by omega), heap_old w _ hk]
    · rw [h2]; simp [heap_size]
theorem ins417_shift (b n c i vb vo m vc : Nat) (cells : Array Value) (t : TypeId) (cs vs : List Value) (vcells : Array Value) (vt : TypeId) (w : World) (hi : i < n) (hm : 0 < m) (hroom : n + m ≤ c) (hnb : n + m < 1048576) (hvb : vb ≠ b) (hg : w.heap[b]? = some (.cells cells t (0, 0))) (hsz : cells.size = c * 8) (hcl : cs.length = n * 8) (hcs : ∀ (j : Nat) (v : Value), cs[j]? = some v → cells[j]? = some v) (h1c : ∀ v ∈ cs, one v)
    (hvg : w.heap[vb]? = some (.cells vcells vt (0, 0))) (hvl : vs.length = m * 8) (hvs : ∀ (j : Nat) (v : Value), vs[j]? = some v → vcells[vo + j]? = some v) (h1v : ∀ v ∈ vs, one v) :
    Calls Tryz.prog 417 #[.slice (some ⟨b, 0, none⟩) n c, .int .i64 (i : Int), .slice (some ⟨vb, vo, none⟩) m vc] w fun e w' => e = .returned (.slice (some ⟨b, 0, none⟩) (n + m) c) ∧
      w'.heap = ((w.setRow b (Go.Eng.pasted cells ((i + m) * 8) (cs.drop (i * 8)).toArray)).setRow b (Go.Eng.pasted (Go.Eng.pasted cells ((i + m) * 8) (cs.drop (i * 8)).toArray) (i * 8) vs.toArray)).heap ∧ w'.os = w.os ∧ w'.tape = w.tape ∧ w'.output = w.output := by
  have hz1 : ¬ ((m : Int) = 0) := by omega
  have hz2 : ¬ ((i : Int) = (n : Int)) := by omega
  have hov : ∀ o lb cb, (callFunc 441 #[.slice (some ⟨vb, vo, none⟩) m vc, .slice (some ⟨b, o, none⟩) lb cb]).run Tryz.prog w = .ok (.value (.bool false)) w := fun o lb cb => by
    rw [run_callFunc_extern Tryz.func441 (by kernel_rfl) (by kernel_rfl) (by kernel_rfl) (e := Extern.SlicesOverlaps.overlaps #[100, 100] #[4]) (by kernel_rfl),
      run_over w 100 4 213 Tryz.underlying100 8 Tryz.sizeOf213 ⟨vb, vo, none⟩ ⟨b, o, none⟩ m vc lb cb hvb hvg hg (by rw [hsz]; omega)]
    rfl
  have hdl : (cs.drop (i * 8)).length = (n - i) * 8 := by rw [List.length_drop, hcl, Nat.sub_mul]
  have hw1 : IntKind.i64.wrap ((i : Int) + (m : Int)) = (i : Int) + (m : Int) := by rw [IntKind.wrap_i64]; omega
  have hw2 : IntKind.i64.wrap ((n : Int) + (m : Int)) = (n : Int) + (m : Int) := by rw [IntKind.wrap_i64]; omega
  have hb1 : (0 : Int) ≤ (i : Int) + (m : Int) := by omega
  have hin : i ≤ n := by omega
  have htn : ((i : Int) + (m : Int)).toNat = i + m := by omega
  have htn2 : ((n : Int) + (m : Int)).toNat = n + m := by omega
  have hb2 : ¬ (c = i + m) := by omega
  have hb3 : (i : Int) ≤ (n : Int) + (m : Int) := by omega
  have hb4 : ¬ (c = i) := by omega
  have hb5 : ¬ ((c : Int) < (n : Int) + (m : Int)) := by omega
  have hcp1 : ∀ (W : World), W.heap = w.heap → ∀ ty dc sc, (Builtin.copy_ #[100, 100] ty #[.slice (some ⟨b, (i + m) * 8, none⟩) (n + m - (i + m)) dc, .slice (some ⟨b, i * 8, none⟩) (n + m - i) sc]).run Tryz.prog W = .ok (goInt ((n - i : Nat) : Int)) (W.setRow b (Go.Eng.pasted cells ((i + m) * 8) (cs.drop (i * 8)).toArray)) := fun W hW ty dc sc => by
    have hmn : Nat.min (n + m - i) (n + m - (i + m)) = n - i := by simp only [Nat.min_def]; split <;> omega
    have hgW : W.heap[b]? = some (.cells cells t (0, 0)) := by rw [hW]; exact hg
    have := run_copy_k (P := Tryz.prog) W (dT := 100) (sT := 100) (ty := ty) (k := 8) (b := b) (o := (i + m) * 8) (dLen := n + m - (i + m)) (dCap := dc) (a := ⟨b, i * 8, none⟩) (sLen := n + m - i) (sCap := sc) (cells := cells) (t := t) (cs := cs.drop (i * 8)) Tryz.underlying100 Tryz.sizeOf213 hgW (by rw [hdl, hmn])
      (fun j v hj => by rw [add_at, Go.Eng.cell_heap hgW]; exact hcs (i * 8 + j) v (by rwa [List.getElem?_drop] at hj)) (by rw [hdl, hsz]; omega) (fun v hv => h1c v (List.mem_of_mem_drop hv))
    rw [hmn] at this
    exact this
  obtain ⟨C1, hC1⟩ : ∃ C1, C1 = Go.Eng.pasted cells ((i + m) * 8) (cs.drop (i * 8)).toArray := ⟨_, rfl⟩
  have hC1s : C1.size = c * 8 := by rw [hC1, Go.Eng.pasted_size _ _ _ (by simp [hdl, hsz]; omega), hsz]
  rw [← hC1] at hcp1 ⊢
  have hcp2 : ∀ (W : World), W.heap = (w.setRow b C1).heap → ∀ ty dc, (Builtin.copy_ #[100, 100] ty #[.slice (some ⟨b, i * 8, none⟩) (n + m - i) dc, .slice (some ⟨vb, vo, none⟩) m vc]).run Tryz.prog W = .ok (goInt ((m : Nat) : Int)) (W.setRow b (Go.Eng.pasted C1 (i * 8) vs.toArray)) := fun W hW ty dc => by
    have hg1 : W.heap[b]? = some (.cells C1 t (0, 0)) := by rw [hW]; exact setRow_heap w b cells C1 t (0, 0) hg
    have hvg1 : W.heap[vb]? = some (.cells vcells vt (0, 0)) := by rw [hW, Go.Eng.heap_setRow_other w b vb C1 hvb]; exact hvg
    have hmn : Nat.min m (n + m - i) = m := by simp only [Nat.min_def]; split <;> omega
    have := run_copy_k (P := Tryz.prog) W (dT := 100) (sT := 100) (ty := ty) (k := 8) (b := b) (o := i * 8) (dLen := n + m - i) (dCap := dc) (a := ⟨vb, vo, none⟩) (sLen := m) (sCap := vc) (cells := C1) (t := t) (cs := vs) Tryz.underlying100 Tryz.sizeOf213 hg1 (by rw [hvl, hmn])
      (fun j v hj => by rw [add_at, Go.Eng.cell_heap hvg1]; exact hvs j v hj) (by rw [hvl, hC1s]; omega) h1v
    rw [hmn] at this
    exact this
  clear hC1 hC1s hdl hcs hvs hg hvg
  have mixed : Tryz.prog.follows Departure.mixedOrders = true := by kernel_rfl
  go_enter Tryz.func417, Tryz.ntmps417
  go_wp2_with (simp only [hov])
  go_region_law_o (refine step_copyK rfl _ _ 100 100 rfl (.slice (some ⟨b, (i + m) * 8, none⟩) (n + m - (i + m)) (c - (i + m))) (.slice (some ⟨b, i * 8, none⟩) (n + m - i) (c - i)) (by simp [Act.eval, Act.put]) (by simp [Act.eval, Act.put]) (hcp1 _ (by rfl) _ _ _) ?_)
  go_wp2_with (refine wpL_copyK _ rfl _ _ 100 100 rfl _ _ rfl rfl (hcp2 _ (by rfl) _ _) ?_)
  go_ret
  exact ⟨rfl, rfl, rfl, rfl, rfl⟩
theorem ins417_grow (b n c i vb vo m vc : Nat) (cells : Array Value) (t : TypeId) (cs vs : List Value) (vcells : Array Value) (vt : TypeId) (w : World) (hi : i < n) (hm : 0 < m) (hnc : n ≤ c) (hroom : c < n + m) (hnb : n + m < 1048576) (hbig : (n + m) * 72 ≤ 140737488355328) (hvb : vb ≠ b) (hg : w.heap[b]? = some (.cells cells t (0, 0))) (hsz : cells.size = c * 8) (hcl : cs.length = n * 8) (hcs : ∀ (j : Nat) (v : Value), cs[j]? = some v → cells[j]? = some v) (h1c : ∀ v ∈ cs, one v)
    (hvg : w.heap[vb]? = some (.cells vcells vt (0, 0))) (hvl : vs.length = m * 8) (hvs : ∀ (j : Nat) (v : Value), vs[j]? = some v → vcells[vo + j]? = some v) (h1v : ∀ v ∈ vs, one v) :
    Calls Tryz.prog 417 #[.slice (some ⟨b, 0, none⟩) n c, .int .i64 (i : Int), .slice (some ⟨vb, vo, none⟩) m vc] w fun e w' => ∃ G ROW, n + m ≤ G ∧ ROW.size = G * 8 ∧ (∀ (j : Nat), j < i * 8 → ROW[j]? = cs[j]?) ∧ e = .returned (.slice (some ⟨w.heap.size, 0, none⟩) (n + m) G) ∧
      w'.heap = (((w.alloc (.cells ROW 213)).setRow w.heap.size (Go.Eng.pasted ROW (i * 8) vs.toArray)).setRow w.heap.size (Go.Eng.pasted (Go.Eng.pasted ROW (i * 8) vs.toArray) ((i + m) * 8) (cs.drop (i * 8)).toArray)).heap ∧ w'.os = w.os ∧ w'.tape = w.tape ∧ w'.output = w.output := by
  have hz1 : ¬ ((m : Int) = 0) := by omega
  have hz2 : ¬ ((i : Int) = (n : Int)) := by omega
  have hz3 : (c : Int) < (n : Int) + (m : Int) := by omega
  have hbw : b < w.heap.size := (Array.getElem?_eq_some_iff.1 hg).1
  have hvw : vb < w.heap.size := (Array.getElem?_eq_some_iff.1 hvg).1
  have hdl : (cs.drop (i * 8)).length = (n - i) * 8 := by rw [List.length_drop, hcl, Nat.sub_mul]
  have htl : (cs.take (i * 8)).length = i * 8 := by rw [List.length_take, hcl]; omega
  have hkk : (n : Int) + (m : Int) - (i : Int) = ((n + m - i : Nat) : Int) := by omega
  have hik : i + (n + m - i) = n + m := by omega
  have hE : Go.Eng.El Tryz.prog 100 213 8 72 [(.int .i64 0), (.int .i64 0), (.int .i64 0), (.int .i64 0), (.int .i64 0), (.int .i64 0), (.string ⟨#[]⟩), (.int .i64 0)] := ⟨Tryz.underlying100, by kernel_rfl, by kernel_rfl, by kernel_rfl, by kernel_rfl, by decide⟩
  obtain ⟨ti, zz, hti, htz, hts, htb, hzc, _⟩ := hE.info
  have hold : (Builtin.firstCells ti.size i (.slice (some ⟨b, 0, none⟩) i c)).run Tryz.prog w.drew = .ok (cs.take (i * 8)).toArray w.drew := by
    rw [hts]
    exact run_firstCells_some w.drew 8 i ⟨b, 0, none⟩ i c (cs.take (i * 8)) htl (fun j v hj => by
      rw [List.getElem?_take] at hj
      split at hj
      · rw [add_at, Go.Eng.cell_heap (show w.drew.heap[b]? = _ from hg), Nat.zero_add]; exact hcs j v hj
      · cases hj)
  obtain ⟨G, hG⟩ : ∃ G, G = grownCap w (n + m) c 213 := ⟨_, rfl⟩
  obtain ⟨ROW, hROW⟩ : ∃ ROW : Array Value, ROW = (cs.take (i * 8)).toArray ++ Builtin.zeroCells zz.cells (n + m - i) ++ Builtin.zeroCells zz.cells (G - (n + m)) := ⟨_, rfl⟩
  have hGn : n + m ≤ G := by rw [hG]; exact grownCap_ge w _ _ _
  have hRs : ROW.size = G * 8 := by
    rw [hROW, Array.size_append, Array.size_append, size_zeroCells, size_zeroCells, hzc, List.size_toArray, htl]; omega
  have hrz : ∀ ty, (Builtin.append_ #[100, 3] ty #[.slice (some ⟨b, 0, none⟩) i c, .int .i64 ((n : Int) + (m : Int) - (i : Int))]).run Tryz.prog w =
      .ok (.slice (some ⟨w.heap.size, 0, none⟩) (n + m) G) (w.drew.alloc (.cells ROW 213)) := fun ty => by
    have h := run_app_zeros (P := Tryz.prog) w (ty := ty) Tryz.underlying100 Tryz.underlying3 hti htz hold (k := n + m - i) (by omega) (by omega) (by omega) (by omega) (by rw [htb]; omega) (by rw [htb, hik]; exact growslice_fits hroom hbig)
    rw [hik, ← hG, ← hROW] at h
    rw [hkk]
    exact h
  have hR0 : ∀ (j : Nat), j < i * 8 → ROW[j]? = cs[j]? := fun j hj => by
    rw [hROW, Array.append_assoc, Array.getElem?_append, if_pos (by rw [List.size_toArray, htl]; exact hj), List.getElem?_toArray, List.getElem?_take, if_pos hj]
  obtain ⟨H1, hH1⟩ : ∃ H1, H1 = (w.drew.alloc (.cells ROW 213)).heap := ⟨_, rfl⟩
  have hN : (w.alloc (.cells ROW 213)).heap[w.heap.size]? = some (.cells ROW 213 (0, 0)) := heap_new w _
  have hOb : (w.alloc (.cells ROW 213)).heap[b]? = some (.cells cells t (0, 0)) := by rw [heap_old w _ hbw]; exact hg
  have hOv : (w.alloc (.cells ROW 213)).heap[vb]? = some (.cells vcells vt (0, 0)) := by rw [heap_old w _ hvw]; exact hvg
  have hcpA : ∀ (W : World), W.heap = (w.alloc (.cells ROW 213)).heap → ∀ ty dc, (Builtin.copy_ #[100, 100] ty #[.slice (some ⟨w.heap.size, i * 8, none⟩) (n + m - i) dc, .slice (some ⟨vb, vo, none⟩) m vc]).run Tryz.prog W = .ok (goInt ((m : Nat) : Int)) (W.setRow w.heap.size (Go.Eng.pasted ROW (i * 8) vs.toArray)) := fun W hW ty dc => by
    have hmn : Nat.min m (n + m - i) = m := by simp only [Nat.min_def]; split <;> omega
    have := run_copy_k (P := Tryz.prog) W (dT := 100) (sT := 100) (ty := ty) (k := 8) (b := w.heap.size) (o := i * 8) (dLen := n + m - i) (dCap := dc) (a := ⟨vb, vo, none⟩) (sLen := m) (sCap := vc) (cells := ROW) (t := 213) (cs := vs) Tryz.underlying100 Tryz.sizeOf213 (by rw [hW]; exact hN) (by rw [hvl, hmn])
      (fun j v hj => by rw [add_at, Go.Eng.cell_heap (show W.heap[vb]? = _ by rw [hW]; exact hOv)]; exact hvs j v hj) (by rw [hvl, hRs]; omega) h1v
    rw [hmn] at this
    exact this
  obtain ⟨C1, hC1⟩ : ∃ C1, C1 = Go.Eng.pasted ROW (i * 8) vs.toArray := ⟨_, rfl⟩
  have hC1s : C1.size = G * 8 := by rw [hC1, Go.Eng.pasted_size _ _ _ (by simp [hvl, hRs]; omega), hRs]
  rw [← hC1] at hcpA
  have hbN : b ≠ w.heap.size := by omega
  have hcpB : ∀ (W : World), W.heap = ((w.alloc (.cells ROW 213)).setRow w.heap.size C1).heap → ∀ ty dc sc, (Builtin.copy_ #[100, 100] ty #[.slice (some ⟨w.heap.size, (i + m) * 8, none⟩) (n + m - (i + m)) dc, .slice (some ⟨b, i * 8, none⟩) (n - i) sc]).run Tryz.prog W = .ok (goInt ((n - i : Nat) : Int)) (W.setRow w.heap.size (Go.Eng.pasted C1 ((i + m) * 8) (cs.drop (i * 8)).toArray)) := fun W hW ty dc sc => by
    have hmn : Nat.min (n - i) (n + m - (i + m)) = n - i := by simp only [Nat.min_def]; split <;> omega
    have hgb : W.heap[b]? = some (.cells cells t (0, 0)) := by rw [hW, Go.Eng.heap_setRow_other _ _ _ _ hbN]; exact hOb
    have := run_copy_k (P := Tryz.prog) W (dT := 100) (sT := 100) (ty := ty) (k := 8) (b := w.heap.size) (o := (i + m) * 8) (dLen := n + m - (i + m)) (dCap := dc) (a := ⟨b, i * 8, none⟩) (sLen := n - i) (sCap := sc) (cells := C1) (t := 213) (cs := cs.drop (i * 8)) Tryz.underlying100 Tryz.sizeOf213 (by rw [hW]; exact setRow_heap _ w.heap.size ROW C1 213 (0, 0) hN) (by rw [hdl, hmn])
      (fun j v hj => by rw [add_at, Go.Eng.cell_heap hgb]; exact hcs (i * 8 + j) v (by rwa [List.getElem?_drop] at hj)) (by rw [hdl, hC1s]; omega) (fun v hv => h1c v (List.mem_of_mem_drop hv))
    rw [hmn] at this
    exact this
  have hG63 : G ≤ 9223372036854775807 := by
    have := grownCap_le_maxLen w (n + m) c 213 (by unfold maxLen; omega)
    rw [← hG] at this
    unfold maxLen at this
    omega
  refine Calls.mono ?_ (fun e w' (h : e = .returned (.slice (some ⟨w.heap.size, 0, none⟩) (n + m) G) ∧ w'.heap = (((w.alloc (.cells ROW 213)).setRow w.heap.size C1).setRow w.heap.size (Go.Eng.pasted C1 ((i + m) * 8) (cs.drop (i * 8)).toArray)).heap ∧ w'.os = w.os ∧ w'.tape = w.tape ∧ w'.output = w.output) => ⟨G, ROW, hGn, hRs, hR0, h.1, hC1 ▸ h.2.1, h.2.2⟩)
  have hw1 : IntKind.i64.wrap ((i : Int) + (m : Int)) = (i : Int) + (m : Int) := by rw [IntKind.wrap_i64]; omega
  have hw2 : IntKind.i64.wrap ((n : Int) + (m : Int)) = (n : Int) + (m : Int) := by rw [IntKind.wrap_i64]; omega
  have hw3 : IntKind.i64.wrap ((n : Int) + (m : Int) - (i : Int)) = (n : Int) + (m : Int) - (i : Int) := by rw [IntKind.wrap_i64]; omega
  have hb1 : (0 : Int) ≤ (i : Int) + (m : Int) := by omega
  have hin : i ≤ n := by omega
  have htn : ((i : Int) + (m : Int)).toNat = i + m := by omega
  have hb3 : (i : Int) ≤ (n : Int) := by omega
  have hGi : ¬ (G = i) := by omega
  have hGim : ¬ (G = i + m) := by omega
  have hci : ¬ (c = i) := by omega
  clear hkk hik hold hROW hG hRs hR0 hN hOb hOv hE hti htz hts htb hzc hC1 hC1s hg hvg hcs hvs hdl htl
  have mixed : Tryz.prog.follows Departure.mixedOrders = true := by kernel_rfl
  go_enter Tryz.func417, Tryz.ntmps417
  go_wp2_with (first
    | (at_builtin; refine wpL_appK _ rfl _ _ 100 3 rfl _ _ rfl rfl (hrz _) ?_)
    | (refine wpL_copyK _ rfl _ _ 100 100 rfl _ _ rfl rfl (hcpA _ (by rfl) _ _) ?_)
    | (refine wpL_copyK _ rfl _ _ 100 100 rfl _ _ rfl rfl (hcpB _ (by rfl) _ _ _) ?_))
  go_region_law_o (refine step_copyK rfl _ _ 100 100 rfl (.slice (some ⟨w.heap.size, (i + m) * 8, none⟩) (n + m - (i + m)) (G - (i + m))) (.slice (some ⟨b, i * 8, none⟩) (n - i) (c - i)) (by simp [Act.eval, Act.put]) (by simp [Act.eval, Act.put]) (hcpB _ (by rfl) _ _ _) ?_)
  go_wp2
  go_ret
  exact ⟨rfl, rfl, rfl, rfl, rfl⟩
theorem insOk417 (hE : Enters Tryz.prog 417) : InsOk Tryz.prog 417 8 72 where
  enters := hE
  pos := by decide
  shift := fun b n c i vb vo m vc cells t cs vs vcells vt w hi hm hroom hnb hvb hg hsz hcl hcs h1c hvg hvl hvs h1v => (ins417_shift b n c i vb vo m vc cells t cs vs vcells vt w hi hm hroom hnb hvb hg hsz hcl hcs h1c hvg hvl hvs h1v).mono fun e w' ⟨h1, h2, h3⟩ => by
    have hc := ins_cells (a := i * 8) (d := m * 8) (q := n * 8) (u := c * 8) (Nat.mul_le_mul_right _ (by omega)) (by rw [← Nat.add_mul]; exact Nat.mul_le_mul_right _ hroom) hsz hcl hvl hcs
    rw [← Nat.add_mul] at hc
    refine ⟨h1, ⟨_, ?_, hc.1, hc.2⟩, fun k hk => ?_, ?_, h3⟩
    · rw [h2]; exact setRow_heap _ b _ _ t (0, 0) (setRow_heap w b cells _ t (0, 0) hg)
    · rw [h2, Go.Eng.heap_setRow_other _ _ _ _ hk, Go.Eng.heap_setRow_other _ _ _ _ hk]
    · rw [h2]; simp
  grow := fun b n c i vb vo m vc cells t cs vs vcells vt w hi hm hnc hroom hnb hbig hvb hg hsz hcl hcs h1c hvg hvl hvs h1v => (ins417_grow b n c i vb vo m vc cells t cs vs vcells vt w hi hm hnc hroom hnb hbig hvb hg hsz hcl hcs h1c hvg hvl hvs h1v).mono fun e w' ⟨G, ROW, hGn, hRs, hR0, h1, h2, h3⟩ => by
    have hc := ins_cells2 (a := i * 8) (d := m * 8) (q := n * 8) (u := G * 8) (vs := vs) (Nat.mul_le_mul_right _ (by omega)) (by rw [← Nat.add_mul]; exact Nat.mul_le_mul_right _ hGn) hRs hcl hvl hR0
    rw [← Nat.add_mul] at hc
    have hN : (w.alloc (.cells ROW 213)).heap[w.heap.size]? = some (.cells ROW 213 (0, 0)) := heap_new w _
    refine ⟨G, _, 213, hGn, h1, ?_, hc.1, hc.2, fun k hk => ?_, ?_, h3⟩
    · rw [h2]; exact setRow_heap _ _ _ _ 213 (0, 0) (setRow_heap _ _ ROW _ 213 (0, 0) hN)
    · rw [h2, Go.Eng.heap_setRow_other _ _ _ _ (by omega), Go.Eng.heap_setRow_other _ _ _ _ (by omega), heap_old w _ hk]
    · rw [h2]; simp [heap_size]
end Go.M
