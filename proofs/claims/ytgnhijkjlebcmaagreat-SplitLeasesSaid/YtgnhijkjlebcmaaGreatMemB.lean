/-
  The memory machine: an executor for the translated code, and that it does what the code does.
  No condition: definitions and lemmas.
-/
import Derived.Test.YtgnhijkjlebcmaaGreatMemA
import Derived.Test.YtgnhijkjlebcmaaGreatEngA
set_option linter.all false
namespace Go.M
open Go
noncomputable section
variable [Ctxt]
section
variable {P : Program} {fl : Nat} {o : Oper} {h : Hp}
theorem xIaddrA_ok {ty el : TypeId} {len sz : Nat} {a i : Operand} {x y : X} (h1 : P.underlying ty = some (.array len el)) (h3 : Go.Eng.sizeP P el = some sz) (ho : o.op = .indexAddr ty a i) :
    CoreP P o [(a, x), (i, y)] h (xIaddrA len sz x y) := fun k r e => by
  obtain ⟨t, e1⟩ := ptrO_some e
  obtain ⟨n, hi1, hi2, e3⟩ := idxK_some e1
  obtain ⟨hoff, c, e4, hc⟩ := ptrAt_some e3
  refine ⟨c, h, e4, fun fl => .refl _ _, fun _ M fl w0 V w ev hm hd _ => ?_⟩
  obtain ⟨hb, hu⟩ := (den7 t).1 (hd (a, x) (by simp))
  obtain ⟨_, hq⟩ := hi1.den (hd (i, y) (by simp))
  rw [run_iaddrA h1 h3 ho hu hq hi2]
  exact .pure hm (hc V hb)
theorem run_idx {ag : Bool} {ty el : TypeId} {len sz : Nat} {a i : Operand} {ev : Operand → Value} {w : World} {n : Nat} {vs : List Value} {v : Value} (h1 : P.underlying ty = some (.array len el)) (h3 : Go.Eng.sizeP P el = some sz)
    (h4 : Go.Eng.aggP P el = some ag) (ho : o.op = .index ty a i) (hx : ev a = .agg vs.toArray) {q : IntKind} (hi : ev i = .int q (n : Int)) (hlt : n < len)
    (hv : (ag = true → n * sz + sz ≤ vs.length ∧ v = .agg ((vs.drop (n * sz)).take sz).toArray) ∧ (ag = false → vs[n * sz]? = some v)) : (execOp ev o).run P w = .ok (.value v) w := by
  have c1 : (0 : Int) ≤ (n : Int) := Int.natCast_nonneg n
  have c2 : (n : Int) < (len : Int) := by omega
  cases ag with
  | true =>
    obtain ⟨h5, rfl⟩ := hv.1 rfl
    have : vs.toArray.extract (n * sz) (n * sz + sz) = ((vs.drop (n * sz)).take sz).toArray := by
      apply Array.ext'
      simp [List.take_drop]
    simp only [execOp, ho, hx, hi, Instr.index, asIntOf, part, Sem.run_bind, run_underlying h1, Sem.run_pure, Result.andThen_ok, c1, c2, and_self, Sem.run_ite, if_true, Go.Eng.run_sizeP h3, Go.Eng.run_isAgg h4, Int.toNat_natCast]
    simp [this, h5]
  | false =>
    have hg : vs.toArray[n * sz]? = some v := by simpa using hv.2 rfl
    simp only [execOp, ho, hx, hi, Instr.index, asIntOf, part, Sem.run_bind, run_underlying h1, Sem.run_pure, Result.andThen_ok, c1, c2, and_self, Sem.run_ite, if_true, Go.Eng.run_sizeP h3, Go.Eng.run_isAgg h4, Int.toNat_natCast, Bool.false_eq_true, if_false, hg]
theorem xIdx_ok {ag : Bool} {ty el : TypeId} {len sz : Nat} {a i : Operand} {x y : X} (h1 : P.underlying ty = some (.array len el)) (h3 : Go.Eng.sizeP P el = some sz) (h4 : Go.Eng.aggP P el = some ag) (ho : o.op = .index ty a i) :
    CoreP P o [(a, x), (i, y)] h (xIdx ag len sz x y) := fun k r e => by
  obtain ⟨n, hi1, hi2, e3⟩ := idxK_some e
  have e4 : xFld ag (Nat.mul n sz) sz x h k = some r := e3
  obtain ⟨t, c, e5, hc⟩ := xFld_run e4
  refine ⟨c, h, e5, fun fl => .refl _ _, fun _ M fl w0 V w ev hm hd _ => ?_⟩
  obtain ⟨vs, hu, h5, h6, _⟩ := (den2 t).1 (hd (a, x) (by simp))
  obtain ⟨_, hiv⟩ := hi1.den (hd (i, y) (by simp))
  cases ag with
  | true =>
    obtain ⟨h7, h8⟩ := (hc V vs h5 h6).1 rfl
    rw [run_idx h1 h3 h4 ho hu hiv hi2 ⟨fun _ => ⟨h7, rfl⟩, fun hf => by cases hf⟩]
    exact .pure hm h8
  | false =>
    obtain ⟨v, h7, h8⟩ := (hc V vs h5 h6).2 rfl
    rw [run_idx h1 h3 h4 ho hu hiv hi2 ⟨fun hf => by (cases hf), fun _ => h7⟩]
    exact .pure hm h8
theorem run_len {ty el : TypeId} {x : Operand} {c : Call} {ad : Option Addr} {n cap : Nat} {ev : Operand → Value} {w : World} (h1 : P.underlying ty = some (.slice el)) (hc : c.callee = .builtin .len)
    (h2 : c.argTypes[0]? = some ty) (h3 : c.args[0]? = some x) (ho : o.op = .call c) (hx : ev x = .slice ad n cap) : (execOp ev o).run P w = .ok (.value (.int .i64 (Int.ofNat n))) w := by
  have run1 : ∀ v, (Builtin.len_ c.argTypes o.type (c.args.map ev)).run P w = .ok v w → (execOp ev o).run P w = .ok (.value v) w := by
    intro v hv
    simp only [execOp, ho, resolve, hc, invoke, builtin, Sem.run_bind, Sem.run_pure, Result.andThen_ok, hv]
  refine run1 _ ?_
  simp [Builtin.len_, h2, h3, hx, run_underlying h1, goInt]
theorem xLen_ok {ty el : TypeId} {a : Operand} {c : Call} {x : X} (h1 : P.underlying ty = some (.slice el)) (hc : c.callee = .builtin .len)
    (h2 : c.argTypes[0]? = some ty) (h3 : c.args[0]? = some a) (ho : o.op = .call c) : CoreP P o [(a, x)] h (xLen x) := fun k r e => by
  have e' : cndR (Nat.beq (Nat.land x.n 31) 8) (k (mk0 (Nat.mul 32 (Nat.land (Nat.shiftRight x.n 6) 1048575))) h) (cndR (Nat.beq x.n 6) (k (mk0 0) h) (cndR (Nat.beq x.n 11) (k (mk0 0) h) none)) = some r := e
  rcases cndR_some e' with ⟨t, e1⟩ | ⟨_, e1⟩
  · rw [show Nat.shiftRight x.n 6 = x.n / 64 from shr _ 6, landM] at e1
    refine ⟨_, h, e1, fun fl => .refl _ _, fun _ M fl w0 V w ev hm hd _ => ?_⟩
    obtain ⟨hb, cap, hu, _⟩ := (den8 (tagT t)).1 (hd (a, x) (by simp))
    rw [run_len h1 hc h2 h3 ho hu]
    exact .pure hm (den_i64 rfl)
  · rcases cndR_some e1 with ⟨t, e2⟩ | ⟨_, e2⟩
    · refine ⟨_, h, e2, fun fl => .refl _ _, fun _ M fl w0 V w ev hm hd _ => ?_⟩
      rw [run_len h1 hc h2 h3 ho ((den6 (by rw [beqT t])).1 (hd (a, x) (by simp)))]
      exact .pure hm (den_i64 rfl)
    · obtain ⟨t, e3⟩ := cndR_t e2
      refine ⟨_, h, e3, fun fl => .refl _ _, fun _ M fl w0 V w ev hm hd _ => ?_⟩
      obtain ⟨ad, cap, hu⟩ := (den11 (by rw [beqT t])).1 (hd (a, x) (by simp))
      rw [run_len h1 hc h2 h3 ho hu]
      exact .pure hm (den_i64 rfl)
theorem slX_some {b off len c : Nat} {k : Kx} {r} (e : slX b off len c h k = some r) (hc2 : c < 2) : off < 1048576 ∧ len < 1048576 ∧ ∃ x, k x h = some r ∧ ∀ V cap, V.S b → len ≤ cap → (c = 1 → cap = len) → (c = 0 → off + cap * V.ε b = V.σ b) →
    den V x (.slice (some ⟨V.ρ b, off, none⟩) len cap) := by
  have e' := e
  unfold slX at e'
  rw [frc_eq] at e'
  obtain ⟨t1, e1⟩ := cndR_t e'
  obtain ⟨t2, e2⟩ := cndR_t e1
  have t1 := bleT t1
  have t2 := bleT t2
  refine ⟨by omega, by omega, _, e2, fun V cap hb hl hc hn => ?_⟩
  have hN : Nat.add (Nat.mul 64 (Nat.add (Nat.mul (Nat.add (Nat.mul b 1048576) off) 1048576) len)) (Nat.add (Nat.mul 32 c) 8) = 64 * ((b * 1048576 + off) * 1048576 + len) + (32 * c + 8) := by simp only [Nat.add_eq, Nat.mul_eq]
  rw [hN]
  generalize hM : 64 * ((b * 1048576 + off) * 1048576 + len) + (32 * c + 8) = n
  have a1 : n % 32 = 8 := by omega
  have a2 : n / 64 = (b * 1048576 + off) * 1048576 + len := by omega
  have a3 : n / 64 % 1048576 = len := by omega
  have a4 : n / 64 / 1048576 % 1048576 = off := by omega
  have a5 : n / 64 / 1048576 / 1048576 = b := by omega
  have a6 : n / 32 % 2 = c := by omega
  refine (den8 (x := mk0 n) a1).2 ?_
  show V.S (n / 64 / 1048576 / 1048576) ∧ ∃ cap_1, _ = Value.slice (some ⟨V.ρ (n / 64 / 1048576 / 1048576), n / 64 / 1048576 % 1048576, none⟩) (n / 64 % 1048576) cap_1 ∧ n / 64 % 1048576 ≤ cap_1 ∧
        (n / 32 % 2 = 1 → cap_1 = n / 64 % 1048576) ∧ (n / 32 % 2 = 0 → n / 64 / 1048576 % 1048576 + cap_1 * V.ε (n / 64 / 1048576 / 1048576) = V.σ (n / 64 / 1048576 / 1048576))
  rw [a3, a4, a5, a6]
  exact ⟨hb, cap, rfl, hl, hc, hn⟩
theorem bndK_some {x : X} {k : Nat → R} {r} (e : bndK x k = some r) : x.n % 32 = 0 ∧ k (x.n / 32) = some r := by
  have e' : cndR (Nat.beq (Nat.land x.n 31) 0) (k (Nat.shiftRight x.n 5)) none = some r := e
  obtain ⟨t, e1⟩ := cndR_t e'
  rw [show Nat.shiftRight x.n 5 = x.n / 32 from shr _ 5] at e1
  exact ⟨tagT t, e1⟩
def BndR (d : Nat) (x : Option Operand) (ev : Operand → Value) (n : Nat) : Prop := (x = none ∧ n = d) ∨ ∃ y, x = some y ∧ ev y = .int .i64 (Int.ofNat n)
theorem run_bounds (isS : Bool) {len cap l r : Nat} {lo hi : Option Operand} {ev : Operand → Value} (hl : BndR 0 lo ev l) (hr : BndR len hi ev r) (hlr : l ≤ r) (hrc : r ≤ cap) (w' : World) :
    (Instr.sliceBounds isS len cap (lo.map ev) (hi.map ev) none).run P w' = .ok (l, r, cap) w' := by
  rcases hr with ⟨rfl, rfl⟩ | ⟨y, rfl, hy⟩ <;> rcases hl with ⟨rfl, rfl⟩ | ⟨z, rfl, hz⟩
  · simp [Instr.sliceBounds]
  · have c1 : (l : Int) ≤ (r : Int) := by omega
    simp [Instr.sliceBounds, hz, Instr.sliceBound, asIntOf, hlr]
  · simp [Instr.sliceBounds, hy, Instr.sliceBound, asIntOf, hrc]
  · simp [Instr.sliceBounds, hz, hy, Instr.sliceBound, asIntOf, hrc, hlr]
theorem run_slice {ty el sz : Nat} {a : Operand} {lo hi : Option Operand} {ev : Operand → Value} {w : World} {ad : Option Addr} {len cap l r : Nat} (hu : P.underlying ty = some (.slice el)) (hs : Go.Eng.sizeP P el = some sz)
    (ho : o.op = .slice ty a lo hi none) (hx : ev a = .slice ad len cap) (hl : BndR 0 lo ev l) (hr : BndR len hi ev r) (hlr : l ≤ r) (hrc : r ≤ cap) :
    (execOp ev o).run P w = .ok (.value (.slice (if cap = l then ad else ad.map (·.add (l * sz))) (r - l) (cap - l))) w := by
  simp only [execOp, ho, hx, Instr.sliceAt, Instr.slice, Sem.run_bind, run_underlying hu, Result.andThen_ok, Option.map_none, run_bounds true hl hr hlr hrc, Go.Eng.run_sizeP hs, Sem.run_pure]
theorem run_slice3 {ty el sz : Nat} {a lo hi mx : Operand} {ev : Operand → Value} {w : World} {ad : Option Addr} {len cap l r : Nat} (hu : P.underlying ty = some (.slice el)) (hs : Go.Eng.sizeP P el = some sz)
    (lo : Option Operand) (ho : o.op = .slice ty a lo (some hi) (some mx)) (hx : ev a = .slice ad len cap) {m : Nat} (hl : BndR 0 lo ev l) (hr : ev hi = .int .i64 (Int.ofNat r)) (hm : ev mx = .int .i64 (Int.ofNat m)) (hlr : l ≤ r) (hrm : r ≤ m) (hrc : m ≤ cap) :
    (execOp ev o).run P w = .ok (.value (.slice (if m = l then ad else ad.map (·.add (l * sz))) (r - l) (m - l))) w := by
  have hb : (Instr.sliceBounds true len cap (lo.map ev) (some (ev hi)) (some (ev mx))).run P w = .ok (l, r, m) w := by
    rcases hl with ⟨rfl, rfl⟩ | ⟨z, rfl, hz⟩
    · simp [Instr.sliceBounds, hm, hr, Instr.sliceBound, asIntOf, hrc, hrm]
    · simp [Instr.sliceBounds, hz, hm, hr, Instr.sliceBound, asIntOf, hrc, hlr, hrm]
  simp only [execOp, ho, hx, Instr.sliceAt, Instr.slice, Sem.run_bind, run_underlying hu, Result.andThen_ok, Option.map_some, hb, Go.Eng.run_sizeP hs, Sem.run_pure]
theorem add_at (g off n : Nat) : (⟨g, off, none⟩ : Addr).add n = ⟨g, off + n, none⟩ := Go.Eng.add_plain g off n
def bndO (x : Option Operand) (y : X) : List (Operand × X) := match x with
  | none => []
  | some a => [(a, y)]
theorem bndR_of {V : Vw} {d : Nat} {x : Option Operand} {y : X} {ev : Operand → Value} {l : List (Operand × X)} (h0 : x = none → y.n / 32 = d) (ht : y.n % 32 = 0) (hs : ∀ q ∈ bndO x y, q ∈ l) (hd : ∀ q ∈ l, den V q.2 (ev q.1)) : BndR d x ev (y.n / 32) := by
  cases x with
  | none => exact .inl ⟨rfl, h0 rfl⟩
  | some a => exact .inr ⟨a, rfl, (den0 ht).1 (hd (a, y) (hs _ (by simp [bndO])))⟩
theorem spot_map (g off n : Nat) : (some (⟨g, off, none⟩ : Addr)).map (·.add n) = some ⟨g, off + n, none⟩ := by simp only [Option.map_some, add_at]
theorem xSlice_run {sz : Nat} {x lo hi : X} {k : Kx} {r} (e : xSlice sz x lo hi h k = some r) : lo.n % 32 = 0 ∧ hi.n % 32 = 0 ∧ lo.n / 32 ≤ hi.n / 32 ∧ ∃ c, k c h = some r ∧ ∀ w0 V w u, MR w0 V h w → den V x u → ∃ ad len cap, u = .slice ad len cap ∧ hi.n / 32 ≤ cap ∧
    den V c (.slice (if cap = lo.n / 32 then ad else ad.map (·.add (lo.n / 32 * sz))) (hi.n / 32 - lo.n / 32) (cap - lo.n / 32)) := by
  obtain ⟨h1, e1⟩ := bndK_some e
  obtain ⟨h2, e2⟩ := bndK_some e1
  obtain ⟨hlr, e3⟩ := cndR_t e2
  have hlr := bleT hlr
  generalize lo.n / 32 = l at *
  generalize hi.n / 32 = q at *
  refine ⟨h1, h2, hlr, ?_⟩
  rcases cndR_some e3 with ⟨t, e4⟩ | ⟨_, e4⟩
  · obtain ⟨t2, e5⟩ := cndR_t e4
    have t2 := beqT t2
    refine ⟨_, e5, fun w0 V w u hm hd => ⟨none, 0, 0, (den6 (by rw [beqT t])).1 hd, by omega, ?_⟩⟩
    have hl0 : l = 0 := by omega
    subst t2; subst hl0
    simp only [if_true, Nat.sub_zero]
    exact (den6 (x := mk0 6) rfl).2 rfl
  · obtain ⟨t, e5⟩ := cndR_t e4
    have e6 := slO_some e5
    have t := tagT t
    have k11 : ∀ V u (ad : Addr) (len cap : Nat), u = Value.slice (some ad) len cap → l = q → q ≤ cap → ∃ ad len cap, u = .slice ad len cap ∧ q ≤ cap ∧ den V (mk0 11) (.slice (if cap = l then ad else ad.map (·.add (l * sz))) (q - l) (cap - l)) := fun V u ad len cap hu hq hc => by
      refine ⟨_, _, _, hu, hc, (den11 (x := mk0 11) rfl).2 ?_⟩
      subst hq
      rw [Nat.sub_self]
      split
      · exact ⟨_, _, rfl⟩
      · exact ⟨_, _, rfl⟩
    rcases cndR_some e6 with ⟨tc, e7⟩ | ⟨tc, e7⟩
    · have tc := beqT tc
      obtain ⟨bn, rows, hg, hk, e8⟩ := rowsK_some e7
      obtain ⟨he, e9⟩ := cndR_t e8
      have he := beqT he
      have base : ∀ w0 V w u, MR w0 V h w → den V x u → V.S (x.n / 64 / 1048576 / 1048576) ∧ ∃ cap, u = .slice (some ⟨V.ρ (x.n / 64 / 1048576 / 1048576), x.n / 64 / 1048576 % 1048576, none⟩) (x.n / 64 % 1048576) cap ∧ x.n / 64 % 1048576 ≤ cap ∧
          x.n / 64 / 1048576 % 1048576 + cap * V.ε (x.n / 64 / 1048576 / 1048576) = V.σ (x.n / 64 / 1048576 / 1048576) ∧ V.ε (x.n / 64 / 1048576 / 1048576) = sz ∧ 0 < sz ∧ rows.length * sz ≤ V.σ (x.n / 64 / 1048576 / 1048576) := fun w0 V w u hm hd => by
        obtain ⟨hb, cap, hu, h3, _, h5⟩ := (den8 t).1 hd
        obtain ⟨_, h6, h7, _, h8, _⟩ := hm.rows hb hg hk
        rw [he] at h6
        exact ⟨hb, cap, hu, h3, h5 tc, h6.symm, h6 ▸ h7, h6 ▸ h8⟩
      clear e7 e6 e5 e4 e3 e2 e1 e
      generalize x.n / 64 / 1048576 / 1048576 = b at *
      generalize x.n / 64 / 1048576 % 1048576 = off at *
      generalize x.n / 64 % 1048576 = len at *
      have part : l < q → slX b (Nat.add off (Nat.mul l sz)) (Nat.sub q l) 0 h k = some r → (∀ w0 V w u, MR w0 V h w → den V x u → ∀ cap, off + cap * sz = V.σ b → len ≤ cap → rows.length * sz ≤ V.σ b → 0 < sz → q ≤ cap) → ∃ c, k c h = some r ∧ ∀ w0 V w u, MR w0 V h w → den V x u → ∃ ad len cap, u = .slice ad len cap ∧ q ≤ cap ∧
          den V c (.slice (if cap = l then ad else ad.map (·.add (l * sz))) (q - l) (cap - l)) := fun hlt e hq => by
        obtain ⟨_, _, c, hc1, hc2⟩ := slX_some e (by decide)
        refine ⟨c, hc1, fun w0 V w u hm hd => ?_⟩
        obtain ⟨hb, cap, hu, h3, h4, h5, h6, h7⟩ := base w0 V w u hm hd
        have hqc := hq w0 V w u hm hd cap (by rw [← h5]; exact h4) h3 h7 h6
        refine ⟨_, _, cap, hu, hqc, ?_⟩
        rw [if_neg (by omega), spot_map]
        refine hc2 V (cap - l) hb (by show q - l ≤ cap - l; omega) (fun hh => by cases hh) fun _ => ?_
        show off + l * sz + (cap - l) * V.ε b = V.σ b
        rw [h5]
        rw [h5] at h4
        rw [← h4, Nat.add_assoc, ← Nat.add_mul, show l + (cap - l) = cap by omega]
      rcases cndR_some e9 with ⟨t1, e10⟩ | ⟨t1, e10⟩
      · have t1 := bleT t1
        have hlq : l = q := by omega
        obtain ⟨t2, e11⟩ := cndR_t e10
        have t2 := bleT t2
        rcases cndR_some e11 with ⟨t3, e12⟩ | ⟨t3, e12⟩
        · have t3 := beqT t3
          obtain ⟨_, _, c, hc1, hc2⟩ := slX_some e12 (by decide)
          refine ⟨c, hc1, fun w0 V w u hm hd => ?_⟩
          obtain ⟨hb, cap, hu, h3, h4, _⟩ := base w0 V w u hm hd
          refine ⟨_, _, cap, hu, by omega, ?_⟩
          have hl0 : l = 0 := by omega
          rw [hl0, t3]
          simp only [Nat.zero_mul, Nat.sub_zero, spot_map, Nat.add_zero, ite_self]
          exact hc2 V cap hb (Nat.zero_le _) (fun hh => by cases hh) fun _ => h4
        · refine ⟨_, e12, fun w0 V w u hm hd => ?_⟩
          obtain ⟨hb, cap, hu, h3, _⟩ := base w0 V w u hm hd
          exact k11 V u _ _ _ hu hlq (by omega)
      · have t1 := bleF t1
        rcases cndR_some e10 with ⟨t2, e11⟩ | ⟨t2, e11⟩
        · have t2 := bleT t2
          exact part t1 e11 fun _ _ _ _ _ _ cap _ h2 _ _ => by omega
        · obtain ⟨t3, e12⟩ := cndR_t e11
          have t3 := bleT t3
          rw [lenL_eq] at t3
          refine part t1 e12 fun w0 V w u _ _ cap h1 _ h3 h4 => ?_
          have t3 : off + q * sz ≤ rows.length * sz := t3
          have : q * sz ≤ cap * sz := by omega
          exact Nat.le_of_mul_le_mul_right this h4
    · obtain ⟨t2, e8⟩ := cndR_t e7
      have t2 := bleT t2
      have tc : x.n / 32 % 2 = 1 := by have := beqF tc; omega
      have base : ∀ V u, den V x u → V.S (x.n / 64 / 1048576 / 1048576) ∧ u = .slice (some ⟨V.ρ (x.n / 64 / 1048576 / 1048576), x.n / 64 / 1048576 % 1048576, none⟩) (x.n / 64 % 1048576) (x.n / 64 % 1048576) := fun V u hd => by
        obtain ⟨hb, cap, hu, _, h4, _⟩ := (den8 t).1 hd
        rw [h4 tc] at hu
        exact ⟨hb, hu⟩
      generalize x.n / 64 / 1048576 / 1048576 = b at *
      generalize x.n / 64 / 1048576 % 1048576 = off at *
      generalize x.n / 64 % 1048576 = len at *
      rcases cndR_some e8 with ⟨t3, e9⟩ | ⟨t3, e9⟩
      · have t3 := bleT t3
        refine ⟨_, e9, fun w0 V w u hm hd => ?_⟩
        obtain ⟨hb, hu⟩ := base V u hd
        exact k11 V u _ _ _ hu (by omega) t2
      · have t3 := bleF t3
        obtain ⟨t4, e10⟩ := cndR_t e9
        have t4 := beqT t4
        obtain ⟨_, _, c, hc1, hc2⟩ := slX_some e10 (by decide)
        refine ⟨c, hc1, fun w0 V w u hm hd => ?_⟩
        obtain ⟨hb, hu⟩ := base V u hd
        refine ⟨_, _, len, hu, by omega, ?_⟩
        rw [if_neg (by omega), spot_map]
        exact hc2 V (len - l) hb (by show q - l ≤ len - l; omega) (fun _ => by show len - l = q - l; omega) (fun hh => by cases hh)
theorem xSlice3_run {sz : Nat} {x lo hi mx : X} {k : Kx} {r} (e : xSlice3 sz x lo hi mx h k = some r) : lo.n % 32 = 0 ∧ hi.n % 32 = 0 ∧ mx.n % 32 = 0 ∧ lo.n / 32 ≤ hi.n / 32 ∧ hi.n / 32 ≤ mx.n / 32 ∧ ∃ c, k c h = some r ∧ ∀ V u, den V x u → ∃ ad len cap, u = .slice ad len cap ∧ mx.n / 32 ≤ cap ∧
    den V c (.slice (if mx.n / 32 = lo.n / 32 then ad else ad.map (·.add (lo.n / 32 * sz))) (hi.n / 32 - lo.n / 32) (mx.n / 32 - lo.n / 32)) := by
  obtain ⟨h1, e1⟩ := bndK_some e
  obtain ⟨h2, e2⟩ := bndK_some e1
  obtain ⟨h3, e4⟩ := bndK_some e2
  generalize lo.n / 32 = l at *
  generalize hi.n / 32 = q at *
  generalize mx.n / 32 = m at *
  rcases cndR_some e4 with ⟨t, e5⟩ | ⟨_, e5⟩
  · obtain ⟨t2, e6⟩ := cndR_t e5
    have t2 : l + (q + m) = 0 := beqT t2
    have hl0 : l = 0 := by omega
    have hq0 : q = 0 := by omega
    have hm0 : m = 0 := by omega
    subst hl0; subst hq0; subst hm0
    refine ⟨h1, h2, h3, Nat.le_refl _, Nat.le_refl _, _, e6, fun V u hd => ⟨none, 0, 0, (den6 (by rw [beqT t])).1 hd, Nat.le_refl _, ?_⟩⟩
    simp only [if_true, Nat.sub_zero]
    exact (den6 (x := mk0 6) rfl).2 rfl
  · obtain ⟨t, e6⟩ := cndR_t e5
    have e7 := slO_some e6
    have t := tagT t
    obtain ⟨t2, e8⟩ := cndR_t e7
    have t2 := bleT t2
    have base : ∀ V u, den V x u → V.S (x.n / 64 / 1048576 / 1048576) ∧ ∃ cap, u = .slice (some ⟨V.ρ (x.n / 64 / 1048576 / 1048576), x.n / 64 / 1048576 % 1048576, none⟩) (x.n / 64 % 1048576) cap ∧ x.n / 64 % 1048576 ≤ cap := fun V u hd => by
      obtain ⟨hb, cap, hu, h4, _⟩ := (den8 t).1 hd
      exact ⟨hb, cap, hu, h4⟩
    clear e7 e6 e5 e4 e2 e1 e
    generalize x.n / 64 / 1048576 / 1048576 = b at *
    generalize x.n / 64 / 1048576 % 1048576 = off at *
    generalize x.n / 64 % 1048576 = len at *
    rcases cndR_some e8 with ⟨tm, e9⟩ | ⟨tm, e9⟩
    · have tm := beqT tm
      subst tm
      rcases cndR_some e9 with ⟨t3, e10⟩ | ⟨t3, e10⟩
      · obtain ⟨t4, e11⟩ := cndR_t e10
        have t4 := beqT t4
        subst t4
        obtain ⟨_, _, c, hc1, hc2⟩ := slX_some e11 (by decide)
        refine ⟨h1, h2, h3, Nat.le_refl _, Nat.le_refl _, c, hc1, fun V u hd => ?_⟩
        obtain ⟨hb, cap, hu, h4⟩ := base V u hd
        refine ⟨_, _, cap, hu, by omega, ?_⟩
        rw [if_pos rfl, Nat.sub_self]
        exact hc2 V 0 hb (Nat.le_refl _) (fun _ => rfl) (fun hh => by cases hh)
      · have t3 := bleF t3
        obtain ⟨_, _, c, hc1, hc2⟩ := slX_some e10 (by decide)
        refine ⟨h1, h2, h3, by omega, Nat.le_refl _, c, hc1, fun V u hd => ?_⟩
        obtain ⟨hb, cap, hu, h4⟩ := base V u hd
        refine ⟨_, _, cap, hu, by omega, ?_⟩
        rw [if_neg (by omega), spot_map]
        exact hc2 V (q - l) hb (Nat.le_refl _) (fun _ => rfl) (fun hh => by cases hh)
    · obtain ⟨t3, e10⟩ := cndR_t e9
      obtain ⟨t4, e11⟩ := cndR_t e10
      refine ⟨h1, h2, h3, bleT t3, bleT t4, _, e11, fun V u hd => ?_⟩
      obtain ⟨hb, cap, hu, h4⟩ := base V u hd
      exact ⟨_, _, cap, hu, by omega, (den16 (x := mk0 16) rfl).2 ⟨_, _, _, rfl⟩⟩
end
end
end Go.M
namespace Go.M
open Go
noncomputable section
variable [Ctxt]
section
variable {P : Program} {fl : Nat} {o : Oper} {h : Hp}
theorem heap_new (w : World) (ob : Obj) : (w.alloc ob).heap[w.heap.size]? = some ob := heap_alloc_new w ob
theorem heap_old (w : World) (ob : Obj) {k : Nat} (hk : k < w.heap.size) : (w.alloc ob).heap[k]? = w.heap[k]? := Go.RowKit.Below.heap_alloc w ob k hk
theorem heap_size (w : World) (ob : Obj) : (w.alloc ob).heap.size = w.heap.size + 1 := by simp
theorem rows_one {V : Vw} {l : List X} {vs : List Value} (hl : denL V l vs) (h1 : ∀ v ∈ vs, one v) (n : Nat) (o : Value) (hn : n = 32 * l.length + 2) : RowsR V l.length [⟨n, l, o⟩] vs.toArray := by
  intro q row hq
  cases q with
  | zero =>
    simp at hq
    subst hq
    refine ⟨hn, rfl, fun j c hj => ?_⟩
    obtain ⟨v, h2, h3⟩ := denL_get hl hj
    exact ⟨v, by simpa using h2, one_list h1 h2, h3⟩
  | succ q => simp at hq
theorem allocP_some {blk : X} {k : Kx} {r} (e : allocP blk h k = some r) : h.n < 65536 ∧ ∃ x, k x (hAl h blk) = some r ∧ ∀ V, V.S h.n → den V x (.pointer (some ⟨V.ρ h.n, 0, none⟩)) := by
  obtain ⟨h1, e1⟩ := allocK_some e
  exact ⟨h1, _, e1, fun V hb => ptr_den hb (by decide) (by show 33554432 * h.n + 7 = _; omega)⟩
theorem new_var {w0 : World} {V : Vw} {w : World} {l : List X} {vs : List Value} {n : Nat} {rn : Nat} {ro bo : Value} {ety : TypeId} {x : X} (hm : MR w0 V h w) (hn : h.n < 65536) (hl : denL V l vs) (h1 : ∀ v ∈ vs, one v) (h0 : 0 < l.length) (hN : n = 32 * l.length + 1) (hrn : rn = 32 * l.length + 2)
    (hx : ∀ V, V.S h.n → den V x (.pointer (some ⟨V.ρ h.n, 0, none⟩))) (cells : Array Value) (hc : cells = vs.toArray) (fl : Nat) :
    Res RM P w0 fl V h w x (hAl h ⟨n, [⟨rn, l, ro⟩], bo⟩) (.ok (.value (.pointer (some ⟨w.heap.size, 0, none⟩))) (w.alloc (.cells cells ety))) := by
  subst hc; subst hN
  have hE : Ext V (addV V h.n w.heap.size vs.length l.length) := addV_ext hm.notS
  have hB : BlkR (addV V h.n w.heap.size vs.length l.length) (w.alloc (.cells vs.toArray ety)) h.n ⟨32 * l.length + 1, [⟨rn, l, ro⟩], bo⟩ := by
    unfold BlkR
    simp only [show (32 * l.length + 1) % 32 = 1 by omega]
    rw [addV_ρ, addV_σ, addV_ε]
    refine ⟨vs.toArray, ety, heap_new w _, by simp, by omega, h0, by rw [denL_length hl]; simp, rows_one (hl.mono hE) h1 _ _ hrn⟩
  obtain ⟨h2, h3⟩ := hm.alloc (w' := w.alloc (.cells vs.toArray ety)) hn (g := w.heap.size) (s := vs.length) (e := l.length) (Nat.le_refl _) (by rw [heap_size]; omega) (fun k hk => heap_old w _ hk) rfl rfl rfl hB fl
  refine ⟨_, _, _, .inl rfl, h2, ?_, h3⟩
  have := hx (addV V h.n w.heap.size vs.length l.length) (.inr rfl)
  rw [addV_ρ] at this
  exact this
theorem denL_const {V : Vw} : ∀ {zs : List Value}, (∀ v ∈ zs, one v) → denL V (zs.map encV) zs
  | [], _ => denL_nil.2 rfl
  | v :: zs, h => denL_cons.2 ⟨v, zs, rfl, encV_den (h v (by simp)), denL_const fun u hu => h u (by simp [hu])⟩
theorem all_one {zs : List Value} (h : zs.all Value.oneCell' = true) : ∀ v ∈ zs, one v := fun v hv => List.all_eq_true.1 h v hv
theorem run_alloc {el : TypeId} {zs : List Value} {ev : Operand → Value} {w : World} (hz : Go.Eng.zerosOf P el = some zs) (ho : o.op = .alloc el) :
    (execOp ev o).run P w = .ok (.value (.pointer (some ⟨w.heap.size, 0, none⟩))) (w.alloc (.cells zs.toArray el)) := by
  obtain ⟨i, z, hi, hiz, rfl⟩ := Go.Eng.zerosOf_info hz
  simp [execOp, ho, Instr.alloc, zeroValue, typeInfo, hi, hiz, newVar, newRow]
theorem alloc_ok {el : TypeId} {zs : List Value} {n : Nat} (hz : Go.Eng.zerosOf P el = some zs) (ho : o.op = .alloc el) (h1 : zs.all Value.oneCell' = true) (h0 : 0 < zs.length) (hN : n = 32 * zs.length + 1) :
    CoreOk P fl o [] h (allocP ⟨n, [⟨32 * zs.length + 2, zs.map encV, oZ⟩], oZ⟩) := fun k r e => by
  obtain ⟨hn, x, e1, hx⟩ := allocP_some e
  refine ⟨x, _, e1, .al _ _ _ hn, fun _ w0 V w ev hm hd _ => ?_⟩
  rw [run_alloc hz ho]
  exact new_var hm hn (denL_const (all_one h1)) (all_one h1) (by simpa using h0) (by simpa using hN) (by simp) hx _ rfl fl
theorem cellsK_some {y : X} {k : List X → R} {r} (e : cellsK y k = some r) : ∃ l, k l = some r ∧ ∀ V u, den V y u → denL V l u.cells.toList ∧ ∀ v ∈ u.cells.toList, one v := by
  have e' := e
  unfold cellsK at e'
  rw [opn_eq] at e'
  rcases cndR_some e' with ⟨t, e1⟩ | ⟨t, e1⟩
  · refine ⟨_, e1, fun V u hd => ?_⟩
    obtain ⟨vs, rfl, h1, h2, _⟩ := (den2 (tagT t)).1 hd
    exact ⟨by simpa [Value.cells] using h2, by simpa [Value.cells] using h1⟩
  · rcases cndR_some e1 with ⟨_, e2⟩ | ⟨t3, e2⟩
    · cases e2
    · rcases cndR_some e2 with ⟨_, e3⟩ | ⟨t4, e3⟩
      · cases e3
      · refine ⟨_, e3, fun V u hd => ?_⟩
        have h1 : one u := den_one hd (by rw [← land31]; exact beqF t) (by rw [← land31]; exact beqF t3) (by rw [← land31]; exact beqF t4)
        have h2 : u.cells = #[u] := by
          unfold one at h1
          cases u <;> first | rfl | (simp [Value.oneCell'] at h1)
        rw [h2]
        refine ⟨denL_cons.2 ⟨u, [], rfl, ?_, denL_nil.2 rfl⟩, by simpa using h1⟩
        cases y; exact hd
theorem xBox_ok {el : TypeId} {a : Operand} {y : X} (ho : o.op = .box el a) : CoreOk P fl o [(a, y)] h (xBox y) := fun k r e => by
  obtain ⟨l, e1, hl⟩ := cellsK_some e
  have e2 : cndR (Nat.beq (lenL l) 0) none (allocP ⟨Nat.add (Nat.mul 32 (lenL l)) 1, [⟨Nat.succ (Nat.add (Nat.mul 32 (lenL l)) 1), l, oZ⟩], oZ⟩ h k) = some r := e1
  rcases cndR_some e2 with ⟨_, e3⟩ | ⟨t, e3⟩
  · cases e3
  · rw [lenL_eq] at t e3
    obtain ⟨hn, x, e4, hx⟩ := allocP_some e3
    refine ⟨x, _, e4, .al _ _ _ hn, fun _ w0 V w ev hm hd _ => ?_⟩
    obtain ⟨h1, h2⟩ := hl V _ (hd (a, y) (by simp))
    have hrun : (execOp ev o).run P w = .ok (.value (.pointer (some ⟨w.heap.size, 0, none⟩))) (w.alloc (.cells (ev a).cells el)) := by
      simp [execOp, ho, Instr.box, newVar, newRow]
    rw [hrun]
    exact new_var hm hn h1 h2 (Nat.pos_of_ne_zero (beqF t)) rfl rfl hx _ (by simp) fl
theorem run_loadA {ty : TypeId} {a : Operand} {sz g off : Nat} {ev : Operand → Value} {w : World} {vs : List Value} (ha : Go.Eng.aggP P ty = some true) (hs : Go.Eng.sizeP P ty = some sz) (ho : o.op = .load ty a) (hx : ev a = .pointer (some ⟨g, off, none⟩))
    (hl : vs.length = sz) (hc : ∀ j v, vs[j]? = some v → w.cell? ⟨g, off + j, none⟩ = some v) : (execOp ev o).run P w = .ok (.value (.agg vs.toArray)) w := by
  have hL := run_loadCells_list (P := P) w ⟨g, off, none⟩ vs (fun j v hj => by
    rw [add_at]; exact hc j v hj)
  subst hl
  simp only [execOp, ho, hx, Instr.loadAt, Instr.sureAddr, loadVar, Sem.run_bind, Go.Eng.run_isAgg ha, Go.Eng.run_sizeP hs, Result.andThen_ok, if_true, hL, Sem.run_pure]
theorem run_load1 {ty : TypeId} {a : Operand} {g off : Nat} {ev : Operand → Value} {w : World} {v : Value} (ha : Go.Eng.aggP P ty = some false) (ho : o.op = .load ty a) (hx : ev a = .pointer (some ⟨g, off, none⟩))
    (hc : w.cell? ⟨g, off, none⟩ = some v) : (execOp ev o).run P w = .ok (.value v) w := by
  simp [execOp, ho, hx, Instr.loadAt, Instr.sureAddr, loadVar, Go.Eng.run_isAgg ha, hc]
theorem row_vals {V : Vw} {e : Nat} {rows : List X} {cells : Array Value} {q : Nat} {row : X} (hR : RowsR V e rows cells) (hq : rows[q]? = some row) (j m : Nat) (hj : j + m ≤ e) :
    ∃ vs : List Value, vs.length = m ∧ (∀ i v, vs[i]? = some v → cells[q * e + (j + i)]? = some v) ∧ (∀ v ∈ vs, one v) ∧ denL V ((row.l.drop j).take m) vs := by
  obtain ⟨_, h2, h3⟩ := hR q row hq
  refine ⟨(List.range m).map fun i => (cells[q * e + (j + i)]?).getD undef, by simp, fun i v hv => ?_, fun v hv => ?_, denL_mk (by simp; omega) fun i x v hx hv => ?_⟩
  · rw [List.getElem?_map] at hv
    rcases Nat.lt_or_ge i m with hi | hi
    · rw [List.getElem?_range hi] at hv
      simp at hv
      have hlt : j + i < row.l.length := by omega
      obtain ⟨u, h4, h5, h6⟩ := h3 (j + i) _ (List.getElem?_eq_getElem hlt)
      rw [h4] at hv ⊢
      simpa using hv
    · rw [List.getElem?_eq_none (by simpa using hi)] at hv; simp at hv
  · rw [List.mem_map] at hv
    obtain ⟨i, hi, rfl⟩ := hv
    have hi := List.mem_range.1 hi
    have hlt : j + i < row.l.length := by omega
    obtain ⟨u, h4, h5, h6⟩ := h3 (j + i) _ (List.getElem?_eq_getElem hlt)
    rw [h4]; exact h5
  · rw [List.getElem?_take] at hx
    split at hx
    · rename_i hi
      rw [List.getElem?_drop] at hx
      obtain ⟨u, h4, h5, h6⟩ := h3 (j + i) _ hx
      rw [List.getElem?_map, List.getElem?_range hi] at hv
      simp only [Option.map_some, Option.some.injEq] at hv
      rw [h4] at hv
      simp only [Option.getD_some] at hv
      subst hv
      exact h6
    · cases hx
theorem xLoad_ok {ag : Bool} {ty : TypeId} {sz : Nat} {a : Operand} {x : X} (ha : Go.Eng.aggP P ty = some ag) (hs : Go.Eng.sizeP P ty = some sz) (ho : o.op = .load ty a) : CoreOk P fl o [(a, x)] h (xLoad ag sz x) := fun k r e => by
  obtain ⟨t, e1⟩ := ptrO_some e
  obtain ⟨bn, rows, hg, hk, e2⟩ := rowsK_some e1
  generalize hbe : x.n / 32 / 1048576 = b at *
  generalize hoe : x.n / 32 % 1048576 = off at *
  have e3 : (nthB (Nat.div off (bn / 32))).f rows (fun row => opn row fun rn cells _ =>
    cndR ag (cndR (Nat.beq sz (bn / 32)) (cndR (Nat.beq (Nat.mod off (bn / 32)) 0) (k ⟨rn, cells, oZ⟩ h) none) ((dropB (Nat.mod off (bn / 32))).f cells fun c => (takeB sz).f c fun c => k ⟨Nat.add (Nat.mul 32 sz) 2, c, oZ⟩ h))
      ((nthB (Nat.mod off (bn / 32))).f cells fun c => xMov c h k)) = some r := e2
  obtain ⟨row, hq, e4⟩ := nthB_some e3
  rw [opn_eq] at e4
  have hqj : ∀ E, bn / 32 = E → off = Nat.div off E * E + Nat.mod off E := fun E _ => (Nat.div_add_mod' off E).symm
  have base : ∀ w0 V w (ev : Operand → Value), MR w0 V h w → (∀ q ∈ [(a, x)], den V q.2 (ev q.1)) → V.S b ∧ ev a = .pointer (some ⟨V.ρ b, off, none⟩) ∧ ∃ cells ty, w.heap[V.ρ b]? = some (.cells cells ty (0, 0)) ∧ RowsR V (bn / 32) rows cells := fun w0 V w ev hm hd => by
    obtain ⟨hb, hx⟩ := (den7 t).1 (hd (a, x) (by simp))
    rw [hbe, hoe] at hx
    rw [hbe] at hb
    obtain ⟨_, h2, _, _, _, cells, ty, h5, _, h6⟩ := hm.rows hb hg hk
    exact ⟨hb, hx, cells, ty, h5, by rw [h2]; exact h6⟩
  cases ag with
  | true =>
    have e5 : cndR (Nat.beq sz (bn / 32)) (cndR (Nat.beq (Nat.mod off (bn / 32)) 0) (k ⟨row.n, row.l, oZ⟩ h) none) ((dropB (Nat.mod off (bn / 32))).f row.l fun c => (takeB sz).f c fun c => k ⟨Nat.add (Nat.mul 32 sz) 2, c, oZ⟩ h) = some r := e4
    rcases cndR_some e5 with ⟨t1, e6⟩ | ⟨t1, e6⟩
    · have t1 := beqT t1
      obtain ⟨t2, e7⟩ := cndR_t e6
      have t2 := beqT t2
      refine ⟨_, h, e7, .refl _ _, fun _ w0 V w ev hm hd _ => ?_⟩
      obtain ⟨hb, hx, cells, cty, h5, hR⟩ := base w0 V w ev hm hd
      obtain ⟨hrn, hrl, _⟩ := hR _ row hq
      obtain ⟨vs, h6, h7, h8, h9⟩ := row_vals hR hq 0 sz (by omega)
      have hoff := hqj _ rfl
      rw [t2] at hoff
      rw [run_loadA ha hs ho hx h6 fun j v hj => by
        rw [Go.Eng.cell_heap h5, hoff, Nat.add_assoc]; exact h7 j v hj]
      rw [List.drop_zero, List.take_of_length_le (by omega)] at h9
      exact .pure hm (agg_den (by omega) h8 h9)
    · obtain ⟨h1, e7⟩ := dropB_some e6
      obtain ⟨h2, e8⟩ := takeB_some e7
      refine ⟨_, h, e8, .refl _ _, fun _ w0 V w ev hm hd _ => ?_⟩
      obtain ⟨hb, hx, cells, cty, h5, hR⟩ := base w0 V w ev hm hd
      obtain ⟨hrn, hrl, _⟩ := hR _ row hq
      rw [List.length_drop] at h2
      obtain ⟨vs, h6, h7, h8, h9⟩ := row_vals hR hq (Nat.mod off (bn / 32)) sz (by omega)
      have hoff := hqj _ rfl
      rw [run_loadA ha hs ho hx h6 fun j v hj => by
        rw [Go.Eng.cell_heap h5, show off + j = Nat.div off (bn / 32) * (bn / 32) + (Nat.mod off (bn / 32) + j) by rw [← Nat.add_assoc, ← hoff]]; exact h7 j v hj]
      exact .pure hm (agg_den (by rw [h6]; rfl) h8 h9)
  | false =>
    have e5 : (nthB (Nat.mod off (bn / 32))).f row.l (fun c => xMov c h k) = some r := e4
    obtain ⟨c, hc, e6⟩ := nthB_some e5
    rw [xMov_eq] at e6
    refine ⟨c, h, e6, .refl _ _, fun _ w0 V w ev hm hd _ => ?_⟩
    obtain ⟨hb, hx, cells, cty, h5, hR⟩ := base w0 V w ev hm hd
    obtain ⟨_, _, h7⟩ := hR _ row hq
    obtain ⟨u, h8, _, h10⟩ := h7 _ _ hc
    have hoff := hqj _ rfl
    rw [run_load1 ha ho hx (v := u) (by rw [Go.Eng.cell_heap h5, hoff]; exact h8)]
    exact .pure hm h10
theorem run_store {ty : TypeId} {a b : Operand} {sz g off : Nat} {ev : Operand → Value} {w : World} {cells : Array Value} {ety : TypeId} (hs : Go.Eng.sizeP P ty = some sz) (ho : o.op = .store ty a b) (hx : ev a = .pointer (some ⟨g, off, none⟩))
    (hsz : (ev b).cells.size = sz) (h1 : ∀ v ∈ (ev b).cells.toList, one v) (hg : w.heap[g]? = some (.cells cells ety (0, 0))) (hfit : off + sz ≤ cells.size) :
    (execOp ev o).run P w = .ok .skip (w.setRow g (Go.Eng.pasted cells off (ev b).cells)) := by
  have hrun := Go.Eng.run_storeVar (P := P) (w := w) (off := off) hs hsz (fun i v hi => h1 v (by
    rw [List.mem_iff_getElem?]; exact ⟨i, by simpa using hi⟩)) hg hfit
  simp only [execOp, ho, hx, Instr.storeAt, Instr.sureAddr, Sem.run_bind, Sem.run_pure, Result.andThen_ok, hrun]
theorem RowsR.paste {V : Vw} {e q j : Nat} {rows : List X} {cells vs : Array Value} {ys : List X} {row : X} (hR : RowsR V e rows cells) (hq : rows[q]? = some row) (hj : j + ys.length ≤ row.l.length) (hl : denL V ys vs.toList) (h1 : ∀ v ∈ vs.toList, one v) (hfit : q * e + j + vs.size ≤ cells.size) (o : Value) :
    RowsR V e (rows.set q ⟨row.n, row.l.take j ++ (ys ++ row.l.drop (j + ys.length)), o⟩) (Go.Eng.pasted cells (q * e + j) vs) := by
  have hlen : vs.size = ys.length := by have := denL_length hl; simpa using this
  obtain ⟨hrn, hrl, hrc⟩ := hR q row hq
  have hql : q < rows.length := (List.getElem?_eq_some_iff.1 hq).1
  intro p row' hp
  rw [List.getElem?_set] at hp
  split at hp
  · rename_i hqp
    subst hqp
    first | (rw [if_pos hql] at hp) | skip
    cases hp
    refine ⟨hrn, by rw [← hrl]; exact splB_len hj, fun i c hi => ?_⟩
    have hi : (row.l.take j ++ (ys ++ row.l.drop (j + ys.length)))[i]? = some c := hi
    rw [splB_get hj] at hi
    rw [Go.Eng.pasted_get _ _ _ hfit, hlen]
    by_cases c1 : i < j
    · rw [if_pos c1] at hi
      rw [if_pos (by omega)]
      exact hrc i c hi
    · rw [if_neg c1] at hi
      rw [if_neg (by omega)]
      by_cases c2 : i < j + ys.length
      · rw [if_pos c2] at hi
        rw [if_pos (by omega)]
        obtain ⟨v, h2, h3⟩ := denL_get hl hi
        rw [show q * e + i - (q * e + j) = i - j by omega]
        exact ⟨v, by simpa using h2, one_list h1 h2, h3⟩
      · rw [if_neg c2] at hi
        rw [if_neg (by omega)]
        exact hrc i c hi
  · rename_i hqp
    obtain ⟨g1, g2, g3⟩ := hR p row' hp
    refine ⟨g1, g2, fun i c hi => ?_⟩
    obtain ⟨u, g4, g5⟩ := g3 i c hi
    refine ⟨u, ?_, g5⟩
    rw [Go.Eng.pasted_get _ _ _ hfit, hlen]
    have hil : i < e := by rw [← g2]; exact (List.getElem?_eq_some_iff.1 hi).1
    rcases Nat.lt_or_gt_of_ne hqp with hlt | hgt
    · have : (q + 1) * e ≤ p * e := Nat.mul_le_mul_right _ hlt
      rw [Nat.add_mul, Nat.one_mul] at this
      rw [if_neg (by omega), if_neg (by omega)]
      exact g4
    · have : (p + 1) * e ≤ q * e := Nat.mul_le_mul_right _ hgt
      rw [Nat.add_mul, Nat.one_mul] at this
      rw [if_pos (by omega)]
      exact g4
theorem MR.turn {w0 : World} {V : Vw} {w w' : World} {b bn : Nat} {rows rows' : List X} {bo o' : Value} {cells' : Array Value} {ety : TypeId} (hm : MR w0 V h w) (hb : V.S b) (hf : fl ≤ b) (hg : gH h b = ⟨bn, rows, bo⟩) (hk : bn % 32 = 1 ∨ bn % 32 = 2)
    (hw : ∀ k, k ≠ V.ρ b → w'.heap[k]? = w.heap[k]?) (hsz : w'.heap.size = w.heap.size) (hos : w'.os = w.os) (htp : w'.tape = w.tape) (hou : w'.output = w.output)
    (hrow : w'.heap[V.ρ b]? = some (.cells cells' ety (0, 0))) (hcs : cells'.size = V.σ b) (hrl : rows'.length = rows.length) (hR : RowsR V (V.ε b) rows' cells') :
    MR w0 V (hPut h b ⟨bn, rows', o'⟩) w' ∧ Stp fl V h w V w' := by
  obtain ⟨h1, h2, h3, h4, h5, cells, ty, h6, h7, h8⟩ := hm.rows hb hg hk
  refine hm.write hb hf hw hsz hos htp hou h1 ?_
  unfold BlkR
  rcases hk with hk | hk
  · simp only [hk]
    exact ⟨cells', ety, hrow, hcs, h2, h3, by rw [hrl]; exact h4 hk, hR⟩
  · simp only [hk]
    exact ⟨cells', ety, hrow, hcs, h2, h3, by rw [hrl]; exact h5, hR⟩
theorem xStore_ok {ty : TypeId} {sz : Nat} {a b : Operand} {x y : X} (hs : Go.Eng.sizeP P ty = some sz) (ho : o.op = .store ty a b) (hfl : fl = h.fl) : CoreOk P fl o [(a, x), (b, y)] h (xStore sz x y) := fun k r e => by
  subst hfl
  obtain ⟨t, e1⟩ := ptrO_some e
  obtain ⟨ys, e2, hys⟩ := cellsK_some e1
  obtain ⟨t1, e3⟩ := cndR_t e2
  have t1 := beqT t1
  rw [lenL_eq] at t1
  obtain ⟨bn, rows, hg, hk, e4⟩ := rowsK_some e3
  generalize hbe : x.n / 32 / 1048576 = bb at *
  generalize hoe : x.n / 32 % 1048576 = off at *
  have e5 : (nthB (Nat.div off (bn / 32))).f rows (fun row => opn row fun rn cells _ =>
    (splB (Nat.mod off (bn / 32))).f cells ys fun cells => (setB (Nat.div off (bn / 32))).f rows ⟨rn, cells, oZ⟩ fun rows => putK bb ⟨bn, rows, oZ⟩ h fun h => k xU h) = some r := e4
  obtain ⟨row, hq, e6⟩ := nthB_some e5
  rw [opn_eq] at e6
  obtain ⟨hj, e7⟩ := splB_some e6
  obtain ⟨hql, e8⟩ := setB_some e7
  obtain ⟨hfl, hb', e9⟩ := putK_some e8
  refine ⟨xU, _, e9, .put hfl hb', fun _ w0 V w ev hm hd _ => ?_⟩
  obtain ⟨hb, hx⟩ := (den7 t).1 (hd (a, x) (by simp))
  rw [hbe, hoe] at hx
  rw [hbe] at hb
  obtain ⟨hl, h1⟩ := hys V _ (hd (b, y) (by simp))
  obtain ⟨_, h2, h3, h4, h5, cells, cty, h6, h7, hR⟩ := hm.rows hb hg hk
  rw [h2] at e9 e8 e7 e6 e5 e4 hj hql hq ⊢
  have hoff : off = Nat.div off (V.ε bb) * V.ε bb + Nat.mod off (V.ε bb) := (Nat.div_add_mod' off _).symm
  have hcl : (ev b).cells.size = sz := by have := denL_length hl; rw [t1] at this; simpa using this
  obtain ⟨_, hrl, _⟩ := hR _ row hq
  have hfit : off + sz ≤ cells.size := by
    rw [h7]
    have : (Nat.div off (V.ε bb) + 1) * V.ε bb ≤ rows.length * V.ε bb := Nat.mul_le_mul_right _ hql
    rw [Nat.add_mul, Nat.one_mul] at this
    omega
  rw [run_store hs ho hx hcl h1 h6 hfit]
  have hpr := hR.paste hq hj hl h1 (by rw [hcl, ← hoff]; exact hfit) oZ
  rw [← hoff] at hpr
  have hrow := setRow_heap w (V.ρ bb) cells (Go.Eng.pasted cells off (ev b).cells) cty (0, 0) h6
  obtain ⟨h8, h9⟩ := hm.turn (fl := h.fl) (w' := w.setRow (V.ρ bb) (Go.Eng.pasted cells off (ev b).cells)) (o' := oZ) hb hfl hg hk (fun k hk => Go.Eng.heap_setRow_other w _ k _ hk) (by simp) rfl rfl rfl hrow (by rw [Go.Eng.pasted_size _ _ _ (by rw [hcl]; exact hfit), h7]) (by simp) hpr
  exact ⟨undef, _, V, .inr ⟨rfl, rfl⟩, h8, den_xU, h9⟩
end
end
end Go.M
namespace Go.M
open Go
noncomputable section
variable [Ctxt]
section
variable {P : Program} {fl : Nat} {o : Oper} {h : Hp}
theorem RowsR.len {V : Vw} {e q : Nat} {rows : List X} {cells : Array Value} {row : X} (hR : RowsR V e rows cells) (hq : rows[q]? = some row) : row.l.length = e := (hR q row hq).2.1
theorem RowsR.sub {V : Vw} {e q n : Nat} {rows : List X} {cells : Array Value} (hR : RowsR V e rows cells) (he : 0 < e) (hn : q + n ≤ rows.length) :
    ∃ vals : List Value, vals.length = n * e ∧ (∀ j v, vals[j]? = some v → cells[q * e + j]? = some v) ∧ (∀ v ∈ vals, one v) ∧ RowsR V e ((rows.drop q).take n) vals.toArray := by
  have key : ∀ k j, k < n → j < e → ∃ u, cells[q * e + (k * e + j)]? = some u ∧ one u := fun k j hk hj => by
    have hlt : q + k < rows.length := by omega
    obtain ⟨_, h2, h3⟩ := hR (q + k) _ (List.getElem?_eq_getElem hlt)
    obtain ⟨u, h4, h5, _⟩ := h3 j _ (List.getElem?_eq_getElem (by rw [h2]; exact hj))
    refine ⟨u, ?_, h5⟩
    rw [← h4, Nat.add_mul, Nat.add_assoc]
  have key2 : ∀ j, j < n * e → ∃ u, cells[q * e + j]? = some u ∧ one u := fun j hj => by
    have d1 : j / e < n := Nat.div_lt_of_lt_mul (by rw [Nat.mul_comm]; exact hj)
    have := key (j / e) (j % e) d1 (Nat.mod_lt _ he)
    rwa [Nat.div_add_mod'] at this
  have hget : ∀ j, j < n * e → ((List.range (n * e)).map fun j => (cells[q * e + j]?).getD undef)[j]? = cells[q * e + j]? := fun j hj => by
    rw [List.getElem?_map, List.getElem?_range hj]
    obtain ⟨u, hu, _⟩ := key2 j hj
    simp [hu]
  refine ⟨(List.range (n * e)).map fun j => (cells[q * e + j]?).getD undef, by simp, fun j v hv => ?_, fun v hv => ?_, fun k row hk => ?_⟩
  · have hj : j < n * e := by simpa using (List.getElem?_eq_some_iff.1 hv).1
    rw [hget j hj] at hv; exact hv
  · rw [List.mem_map] at hv
    obtain ⟨j, hj, rfl⟩ := hv
    obtain ⟨u, hu, h1⟩ := key2 j (List.mem_range.1 hj)
    rw [hu]; exact h1
  · rw [List.getElem?_take] at hk
    split at hk
    · rename_i hkn
      rw [List.getElem?_drop] at hk
      obtain ⟨h1, h2, h3⟩ := hR (q + k) row hk
      refine ⟨h1, h2, fun j c hj => ?_⟩
      obtain ⟨u, h4, h5⟩ := h3 j c hj
      refine ⟨u, ?_, h5⟩
      have hje : j < e := by rw [← h2]; exact (List.getElem?_eq_some_iff.1 hj).1
      have hlt : k * e + j < n * e := by
        have : (k + 1) * e ≤ n * e := Nat.mul_le_mul_right _ hkn
        rw [Nat.add_mul, Nat.one_mul] at this
        omega
      rw [List.getElem?_toArray, hget _ hlt, ← h4, Nat.add_mul, Nat.add_assoc]
    · cases hk
theorem RowsR.nil {V : Vw} {e : Nat} {cells : Array Value} : RowsR V e [] cells := fun q row hq => by simp at hq
theorem RowsR.append {V : Vw} {e : Nat} {xs ys : List X} {us vs : List Value} (h1 : RowsR V e xs us.toArray) (h2 : RowsR V e ys vs.toArray) (hl : us.length = xs.length * e) : RowsR V e (xs ++ ys) (us ++ vs).toArray := by
  intro q row hq
  rw [List.getElem?_append] at hq
  split at hq
  · rename_i hlt
    obtain ⟨g1, g2, g3⟩ := h1 q row hq
    refine ⟨g1, g2, fun j c hj => ?_⟩
    obtain ⟨u, g4, g5⟩ := g3 j c hj
    refine ⟨u, ?_, g5⟩
    rw [List.getElem?_toArray] at g4 ⊢
    rw [List.getElem?_append_left (List.getElem?_eq_some_iff.1 g4).1]
    exact g4
  · rename_i hge
    obtain ⟨g1, g2, g3⟩ := h2 _ row hq
    refine ⟨g1, g2, fun j c hj => ?_⟩
    obtain ⟨u, g4, g5⟩ := g3 j c hj
    refine ⟨u, ?_, g5⟩
    have h5 : xs.length * e ≤ q * e := Nat.mul_le_mul_right _ (by omega)
    rw [List.getElem?_toArray] at g4 ⊢
    rw [List.getElem?_append_right (by omega), hl, ← g4, Nat.sub_mul]
    congr 1; omega
theorem RowsR.more {V : Vw} {e : Nat} {xs : List X} {us vs : List Value} (h1 : RowsR V e xs us.toArray) : RowsR V e xs (us ++ vs).toArray := fun q row hq => by
  obtain ⟨g1, g2, g3⟩ := h1 q row hq
  refine ⟨g1, g2, fun j c hj => ?_⟩
  obtain ⟨u, g4, g5⟩ := g3 j c hj
  refine ⟨u, ?_, g5⟩
  rw [List.getElem?_toArray] at g4 ⊢
  rw [List.getElem?_append_left (List.getElem?_eq_some_iff.1 g4).1]
  exact g4
theorem RowsR.zeros {V : Vw} {e n : Nat} {zs : List Value} {cells : Array Value} {ro : Value} (h1 : ∀ v ∈ zs, one v) (hl : zs.length = e) (hc : ∀ k j, k < n → j < e → cells[k * e + j]? = zs[j]?) : RowsR V e (List.replicate n ⟨32 * e + 2, zs.map encV, ro⟩) cells := fun q row hq => by
  rw [List.getElem?_replicate] at hq
  split at hq
  · rename_i hqn
    cases hq
    refine ⟨rfl, by simpa using hl, fun j c hj => ?_⟩
    have hj' : j < e := by rw [← hl]; simpa using (List.getElem?_eq_some_iff.1 hj).1
    obtain ⟨v, h2, h3⟩ := denL_get (denL_const h1 (V := V)) hj
    exact ⟨v, by rw [hc q j hqn hj']; exact h2, one_list h1 h2, h3⟩
  · cases hq
theorem RowsR.splice {V : Vw} {e q : Nat} {rows ys : List X} {cells vs : Array Value} (hR : RowsR V e rows cells) (hY : RowsR V e ys vs) (hq : q + ys.length ≤ rows.length) (hs : vs.size = ys.length * e) (hfit : q * e + vs.size ≤ cells.size) :
    RowsR V e (rows.take q ++ (ys ++ rows.drop (q + ys.length))) (Go.Eng.pasted cells (q * e) vs) := by
  intro k row hk
  rw [splB_get hq] at hk
  have hmul : (q + ys.length) * e = q * e + ys.length * e := Nat.add_mul _ _ _
  have old : rows[k]? = some row → (k < q ∨ q + ys.length ≤ k) → row.n = 32 * e + 2 ∧ row.l.length = e ∧ ∀ (j : Nat) (c : X), row.l[j]? = some c → ∃ u, (Go.Eng.pasted cells (q * e) vs)[k * e + j]? = some u ∧ one u ∧ den V c u := fun hk hor => by
    obtain ⟨g1, g2, g3⟩ := hR k row hk
    refine ⟨g1, g2, fun j c hj => ?_⟩
    obtain ⟨u, g4, g5⟩ := g3 j c hj
    refine ⟨u, ?_, g5⟩
    have hje : j < e := by rw [← g2]; exact (List.getElem?_eq_some_iff.1 hj).1
    rw [Go.Eng.pasted_get _ _ _ hfit, hs]
    rcases hor with hlt | hge
    · have : (k + 1) * e ≤ q * e := Nat.mul_le_mul_right _ hlt
      rw [Nat.add_mul, Nat.one_mul] at this
      rw [if_pos (by omega)]; exact g4
    · have : (q + ys.length) * e ≤ k * e := Nat.mul_le_mul_right _ hge
      rw [if_neg (by omega), if_neg (by omega)]; exact g4
  by_cases c1 : k < q
  · rw [if_pos c1] at hk; exact old hk (.inl c1)
  · rw [if_neg c1] at hk
    by_cases c2 : k < q + ys.length
    · rw [if_pos c2] at hk
      obtain ⟨g1, g2, g3⟩ := hY _ row hk
      refine ⟨g1, g2, fun j c hj => ?_⟩
      obtain ⟨u, g4, g5⟩ := g3 j c hj
      refine ⟨u, ?_, g5⟩
      have hje : j < e := by rw [← g2]; exact (List.getElem?_eq_some_iff.1 hj).1
      have h5 : k * e = q * e + (k - q) * e := by rw [← Nat.add_mul]; congr 1; omega
      have h6 : (k - q + 1) * e ≤ ys.length * e := Nat.mul_le_mul_right _ (by omega)
      rw [Nat.add_mul, Nat.one_mul] at h6
      rw [Go.Eng.pasted_get _ _ _ hfit, hs, if_neg (by omega), if_pos (by omega), ← g4]
      congr 1; omega
    · rw [if_neg c2] at hk; exact old hk (.inr (by omega))
def Reads (V : Vw) (w : World) (sz : Nat) (rows : List X) (u : Value) (vals : List Value) : Prop :=
  ∃ ad cap, u = .slice ad rows.length cap ∧ vals.length = rows.length * sz ∧ (ad = none → rows = []) ∧ (∀ A, ad = some A → ∀ j v, vals[j]? = some v → w.cell? (A.add j) = some v) ∧ (∀ v ∈ vals, one v) ∧ RowsR V sz rows vals.toArray
theorem contK_some {sz : Nat} {s : X} {k : List X → R} {r} (e : contK sz s h k = some r) : ∃ rows, k rows = some r ∧ ∀ w0 V w u, MR w0 V h w → den V s u → ∃ vals, Reads V w sz rows u vals := by
  have e' : cndR (Nat.beq s.n 6) (k []) (cndR (Nat.beq s.n 11) (k []) (cndR (Nat.beq (Nat.land s.n 31) 8)
    (slO s.n fun b off len _ => cndR (Nat.beq len 0) (k []) (rowsK b h fun _ e rows => cndR (Nat.beq e sz) (cndR (Nat.beq (Nat.mod off e) 0) (frc (Nat.div off e) fun q => (dropB q).f rows fun r => (takeB len).f r k) none) none)) none)) = some r := e
  rcases cndR_some e' with ⟨t, e1⟩ | ⟨_, e1⟩
  · exact ⟨[], e1, fun w0 V w u hm hd => ⟨[], none, 0, (den6 (by rw [beqT t])).1 hd, by simp, fun _ => rfl, fun A hA => by (cases hA), by simp, .nil⟩⟩
  · rcases cndR_some e1 with ⟨t, e2⟩ | ⟨_, e2⟩
    · refine ⟨[], e2, fun w0 V w u hm hd => ?_⟩
      obtain ⟨a, c, hu⟩ := (den11 (by rw [beqT t])).1 hd
      exact ⟨[], some a, c, hu, by simp, fun _ => rfl, fun A hA j v hv => by simp at hv, by simp, .nil⟩
    · obtain ⟨t, e3⟩ := cndR_t e2
      have t := tagT t
      have e4 := slO_some e3
      rcases cndR_some e4 with ⟨t1, e5⟩ | ⟨_, e5⟩
      · have t1 := beqT t1
        refine ⟨[], e5, fun w0 V w u hm hd => ?_⟩
        obtain ⟨hb, cap, hu, _⟩ := (den8 t).1 hd
        rw [t1] at hu
        exact ⟨[], _, cap, hu, by simp, fun _ => rfl, fun A hA j v hv => by simp at hv, by simp, .nil⟩
      · obtain ⟨bn, rows, hg, hk, e6⟩ := rowsK_some e5
        obtain ⟨t2, e7⟩ := cndR_t e6
        have t2 := beqT t2
        obtain ⟨t3, e8⟩ := cndR_t e7
        have t3 := beqT t3
        have e9 : (dropB (Nat.div (s.n / 64 / 1048576 % 1048576) (bn / 32))).f rows (fun r => (takeB (s.n / 64 % 1048576)).f r k) = some r := e8
        obtain ⟨h1, e10⟩ := dropB_some e9
        obtain ⟨h2, e11⟩ := takeB_some e10
        rw [List.length_drop] at h2
        refine ⟨_, e11, fun w0 V w u hm hd => ?_⟩
        obtain ⟨hb, cap, hu, _⟩ := (den8 t).1 hd
        obtain ⟨_, h3, h4, _, _, cells, cty, h5, _, hR⟩ := hm.rows hb hg hk
        rw [← h3] at h4 hR
        obtain ⟨vals, h6, h7, h8, h9⟩ := hR.sub (q := Nat.div (s.n / 64 / 1048576 % 1048576) (bn / 32)) (n := s.n / 64 % 1048576) h4 (by omega)
        have hoff : s.n / 64 / 1048576 % 1048576 = Nat.div (s.n / 64 / 1048576 % 1048576) (bn / 32) * (bn / 32) := by
          have := Nat.div_add_mod' (s.n / 64 / 1048576 % 1048576) (bn / 32)
          have t3 : s.n / 64 / 1048576 % 1048576 % (bn / 32) = 0 := t3
          rw [t3] at this
          exact this.symm
        have hlen : ((rows.drop (Nat.div (s.n / 64 / 1048576 % 1048576) (bn / 32))).take (s.n / 64 % 1048576)).length = s.n / 64 % 1048576 := by
          rw [List.length_take, List.length_drop]; omega
        refine ⟨vals, _, cap, by rw [hlen]; exact hu, by rw [hlen, h6, t2], fun hA => by (cases hA), fun A hA j v hv => ?_, h8, t2 ▸ h9⟩
        cases hA
        rw [add_at, Go.Eng.cell_heap h5, hoff]
        exact h7 j v hv
theorem lenL_rows {rows : List X} : lenL rows = rows.length := lenL_eq rows
theorem newS_raw {sz bytes : Nat} {rows : List X} {k : Kx} {r} (e : newS sz bytes rows h k = some r) : rows.length * bytes ≤ 140737488355328 ∧ rows.length < 1048576 ∧ h.n < 65536 ∧ ∃ x bo, k x (hAl h ⟨32 * sz + 2, rows, bo⟩) = some r ∧
    ∀ V cap, V.S h.n → rows.length ≤ cap → cap * V.ε h.n = V.σ h.n → den V x (.slice (some ⟨V.ρ h.n, 0, none⟩) rows.length cap) := by
  have e' : cndR (Nat.ble (Nat.mul (lenL rows) bytes) 140737488355328) (allocK ⟨Nat.add (Nat.mul 32 sz) 2, rows, oZ⟩ h fun b h => slX b 0 (lenL rows) 0 h k) none = some r := e
  obtain ⟨t, e1⟩ := cndR_t e'
  have t := bleT t
  rw [lenL_eq] at t e1
  obtain ⟨hn, e2⟩ := allocK_some e1
  obtain ⟨_, hl, x, e3, hx⟩ := slX_some e2 (by decide)
  exact ⟨t, hl, hn, x, oZ, e3, fun V cap hb hc he => hx V cap hb hc (fun hh => by cases hh) (fun _ => by rw [Nat.zero_add]; exact he)⟩
theorem new_res {sz : Nat} {rows : List X} {x : X} {bo : Value} (hn : h.n < 65536) (hx : ∀ V cap, V.S h.n → rows.length ≤ cap → cap * V.ε h.n = V.σ h.n → den V x (.slice (some ⟨V.ρ h.n, 0, none⟩) rows.length cap))
    {w0 : World} {V : Vw} {w w' : World} {vals rest : List Value} {cap : Nat} {el : TypeId} (hm : MR w0 V h w) (h0 : 0 < sz) (hR : RowsR V sz rows vals.toArray) (hvl : vals.length = rows.length * sz) (hcap : rows.length ≤ cap) (hcs : (vals ++ rest).length = cap * sz)
    (hw : w'.heap[w.heap.size]? = some (.cells (vals ++ rest).toArray el (0, 0))) (hsz : w'.heap.size = w.heap.size + 1) (hold : ∀ k, k < w.heap.size → w'.heap[k]? = w.heap[k]?) (hos : w'.os = w.os) (htp : w'.tape = w.tape) (hou : w'.output = w.output) (fl : Nat) :
    Res RM P w0 fl V h w x (hAl h ⟨32 * sz + 2, rows, bo⟩) (.ok (.value (.slice (some ⟨w.heap.size, 0, none⟩) rows.length cap)) w') := by
  have hE : Ext V (addV V h.n w.heap.size (cap * sz) sz) := addV_ext hm.notS
  have hB : BlkR (addV V h.n w.heap.size (cap * sz) sz) w' h.n ⟨32 * sz + 2, rows, bo⟩ := by
    unfold BlkR
    simp only [show (32 * sz + 2) % 32 = 2 by omega]
    rw [addV_ρ, addV_σ, addV_ε]
    exact ⟨_, el, hw, by simpa using hcs, by omega, h0, Nat.mul_le_mul_right _ hcap, (hR.mono hE).more⟩
  obtain ⟨h2, h3⟩ := hm.alloc hn (Nat.le_refl _) (by omega) hold hos htp hou hB fl
  refine ⟨_, _, _, .inl rfl, h2, ?_, h3⟩
  have := hx (addV V h.n w.heap.size (cap * sz) sz) cap (.inr rfl) hcap (by rw [addV_ε, addV_σ])
  rw [addV_ρ] at this
  exact this
theorem Res.pre {w0 : World} {V : Vw} {h h1 h' : Hp} {w w1 : World} {x : X} {r : Result Next} (hn : h.n ≤ h1.n) (hs : Stp fl V h w V w1) (hr : Res RM P w0 fl V h1 w1 x h' r) : Res RM P w0 fl V h w x h' r := by
  obtain ⟨v, w', V', h1, h2, h3, h4⟩ := hr
  exact ⟨v, w', V', h1, h2, h3, hs.trans hn h4⟩
theorem drew_heap (w : World) (ob : Obj) : (w.drew.alloc ob).heap[w.heap.size]? = some ob ∧ (w.drew.alloc ob).heap.size = w.heap.size + 1 ∧ ∀ k, k < w.heap.size → (w.drew.alloc ob).heap[k]? = w.heap[k]? :=
  ⟨heap_new w.drew ob, heap_size w.drew ob, fun k hk => heap_old w.drew ob hk⟩
end
end
end Go.M
set_option maxHeartbeats 4000000
namespace Go.M
open Go
noncomputable section
variable [Ctxt]
section
variable {P : Program} {fl : Nat} {o : Oper} {h : Hp}
theorem den_slice {V : Vw} {s : X} {u : Value} (h : den V s u) (ht : s.n = 6 ∨ s.n % 32 = 8 ∨ s.n = 11) : ∃ ad n cap, u = .slice ad n cap ∧ n ≤ cap := by
  rcases ht with ht | ht | ht
  · exact ⟨none, 0, 0, (den6 (by rw [ht])).1 h, Nat.le_refl _⟩
  · obtain ⟨_, cap, hu, h1, _⟩ := (den8 ht).1 h
    exact ⟨_, _, cap, hu, h1⟩
  · obtain ⟨a, c, hu⟩ := (den11 (by rw [ht])).1 h
    exact ⟨_, _, c, hu, Nat.zero_le _⟩
theorem zlen (z : Array Value) (n : Nat) : (Builtin.zeroCells z n).toList.length = n * z.size := by rw [Array.length_toList, size_zeroCells]
theorem nat_fit {a b by_ : Nat} (h : a * by_ ≤ 140737488355328) (hb : b ≤ a) : b * by_ ≤ 140737488355328 := Nat.le_trans (Nat.mul_le_mul_right _ hb) h
theorem xApp_ok {ty el sz by_ : Nat} {zs : List Value} {s x : Operand} {c : Call} {y z : X} (hE : Go.Eng.El P ty el sz by_ zs) (hc : c.callee = .builtin .append) (h2 : c.argTypes = #[ty, ty]) (h3 : c.args = #[s, x]) (ho : o.op = .call c) (hfl : fl = h.fl) :
    CoreOk P fl o [(s, y), (x, z)] h (xApp sz by_ y z) := fun k r e => by
  subst hfl
  obtain ⟨i, zz, hi, hiz, his, hib, hzc, hzl⟩ := hE.info
  have hsz := hE.pos
  obtain ⟨news, e1, hnews⟩ := contK_some e
  have run1 : ∀ {ev : Operand → Value} {w : World} {v : Value} {w' : World}, (Builtin.append_ #[ty, ty] o.type #[ev s, ev x]).run P w = .ok v w' → (execOp ev o).run P w = .ok (.value v) w' := fun hv => by
    simp only [execOp, ho, resolve, hc, h2, h3, invoke, builtin, Sem.run_bind, Sem.run_pure, Result.andThen_ok, List.map_toArray, List.map_cons, List.map_nil, hv]
  have big : ∀ n : Nat, n * by_ ≤ 140737488355328 → n < 1048576 → 0 < n → (n : Int) ≤ 9223372036854775807 ∧ n * i.bytes ≤ 281474976710656 := fun n h1 h2 _ => by
    rw [hib]; exact ⟨by omega, by omega⟩
  cases hnw : news with
  | nil =>
    rw [hnw] at e1 hnews
    have e2 : cndR (Nat.beq y.n 6) (xMov y h k) (cndR (Nat.beq (Nat.land y.n 31) 8) (xMov y h k) (cndR (Nat.beq y.n 11) (xMov y h k) none)) = some r := e1
    have fin : xMov y h k = some r → (y.n = 6 ∨ y.n % 32 = 8 ∨ y.n = 11) → ∃ x_1 h', k x_1 h' = some r ∧ HLe h.fl h h' ∧ ((∀ p ∈ h'.fa, p) → ∀ w0 V w (ev : Operand → Value), MR w0 V h w → (∀ q ∈ [(s, y), (x, z)], den V q.2 (ev q.1)) → (∀ v, ev (.const v) = v) →
        Res RM P w0 h.fl V h w x_1 h' ((execOp ev o).run P w)) := fun e ht => by
      rw [xMov_eq] at e
      refine ⟨y, h, e, .refl _ _, fun _ w0 V w ev hm hd _ => ?_⟩
      have hy := hd (s, y) (by simp)
      obtain ⟨ad, n, cap, hu, hle⟩ := den_slice hy ht
      obtain ⟨vals, ad', cap', hv, _⟩ := hnews w0 V w _ hm (hd (x, z) (by simp))
      have hu' : ev s = .slice ad n cap := hu
      have hv' : ev x = .slice ad' 0 cap' := hv
      have hrun : (Builtin.append_ #[ty, ty] o.type #[ev s, ev x]).run P w = .ok (ev s) w := by
        rw [hu', hv']
        cases ad <;> cases ad' <;> simp [Builtin.append_, run_underlying hE.und, sizeOf, typeInfo, hi, Builtin.lenOf, Builtin.firstCells, loadCells, loadCellsFrom, storeCells, hle]
      rw [run1 hrun]
      exact .pure hm hy
    rcases cndR_some e2 with ⟨t, e3⟩ | ⟨_, e3⟩
    · exact fin e3 (.inl (beqT t))
    · rcases cndR_some e3 with ⟨t, e4⟩ | ⟨_, e4⟩
      · exact fin e4 (.inr (.inl (tagT t)))
      · obtain ⟨t, e5⟩ := cndR_t e4
        exact fin e5 (.inr (.inr (beqT t)))
  | cons n0 ns =>
    have hpos : 0 < news.length := by rw [hnw]; simp
    have e2 : cndR (Nat.beq y.n 6) (newS sz by_ news h k) (cndR (Nat.beq (Nat.land y.n 31) 8) (slO y.n fun b off len c =>
        cndR (Nat.beq c 1) (contK sz y h fun olds => appL olds news fun rows => newS sz by_ rows h k)
          (rowsK b h fun bn e rows => cndR (Nat.beq e sz) (cndR (Nat.beq (Nat.mod off e) 0) (frc (Nat.div off e) fun q => frc (Nat.add q len) fun at_ =>
            cndR (Nat.ble (Nat.add at_ (lenL news)) (lenL rows)) ((splB at_).f rows news fun rows => putK b ⟨bn, rows, oZ⟩ h fun h => slX b off (Nat.add len (lenL news)) 0 h k)
              (contK sz y h fun olds => appL olds news fun rows => cndR (Nat.beq (Nat.land bn 31) 1) (newS sz by_ rows h k) (cndR (Nat.beq off 0) (putK b (mk0 0) h fun h => newS sz by_ rows h k) none))) none) none)) none) = some r := by
      rw [hnw] at e1 ⊢; exact e1
    clear e1 e
    have nw : ∀ {w0 V w} {ev : Operand → Value}, MR w0 V h w → (∀ q ∈ [(s, y), (x, z)], den V q.2 (ev q.1)) → ∃ (vals : List Value) (A : Addr) (cap : Nat), ev x = .slice (some A) news.length cap ∧ vals.length = news.length * sz ∧ (∀ j v, vals[j]? = some v → w.cell? (A.add j) = some v) ∧ (∀ v ∈ vals, one v) ∧ RowsR V sz news vals.toArray := fun hm hd => by
      obtain ⟨vals, ad, cap, h4, h5, h6, h7, h8, h9⟩ := hnews _ _ _ _ hm (hd (x, z) (by simp))
      cases ad with
      | none => rw [h6 rfl] at hpos; simp at hpos
      | some A => exact ⟨vals, A, cap, h4, h5, h7 A rfl, h8, h9⟩
    rcases cndR_some e2 with ⟨t, e3⟩ | ⟨_, e3⟩
    · -- onto nil
      obtain ⟨hb1, hb2, hn, c, bo, e4, hx⟩ := newS_raw e3
      refine ⟨c, _, e4, .al _ _ _ hn, fun _ w0 V w ev hm hd _ => ?_⟩
      obtain ⟨vals, A, cap, h4, h5, h6, h7, h8⟩ := nw hm hd
      have hs : ev s = .slice none 0 0 := (den6 (by rw [beqT t])).1 (hd (s, y) (by simp))
      obtain ⟨c1, c2⟩ := big _ hb1 hb2 hpos
      have hrun := run_append_nil (P := P) w ty o.type el i zz hE.und hi hiz A news.length cap vals (by rw [h5, his]) h6 hpos c1 c2
      rw [run1 (by rw [hs, h4]; exact hrun)]
      have hge := grownCap_ge w news.length 0 el
      obtain ⟨d1, d2, d3⟩ := drew_heap w (.cells (vals.toArray ++ Builtin.zeroCells zz.cells (grownCap w news.length 0 el - news.length)) el)
      refine new_res hn hx (vals := vals) (rest := (Builtin.zeroCells zz.cells (grownCap w news.length 0 el - news.length)).toList) (el := el) hm hsz h8 h5 hge ?_ ?_ d2 d3 rfl rfl rfl h.fl
      · rw [List.length_append, h5, zlen, hzc, ← Nat.add_mul]; congr 1; omega
      · rw [d1]; congr 2; apply Array.ext'; simp
    · obtain ⟨t, e4⟩ := cndR_t e3
      have t := tagT t
      have e5 := slO_some e4
      have grow : ∀ olds : List X, newS sz by_ (olds ++ news) h k = some r → (∀ w0 V w u, MR w0 V h w → den V y u → ∃ vals, Reads V w sz olds u vals) → (∀ V (w0 w : World) ad n cap, MR w0 V h w → den V y (.slice ad n cap) → cap < n + news.length) → ∃ x_1 h', k x_1 h' = some r ∧ HLe h.fl h h' ∧ ((∀ p ∈ h'.fa, p) → ∀ w0 V w (ev : Operand → Value), MR w0 V h w → (∀ q ∈ [(s, y), (x, z)], den V q.2 (ev q.1)) → (∀ v, ev (.const v) = v) →
          Res RM P w0 h.fl V h w x_1 h' ((execOp ev o).run P w)) := fun olds e holds hcap => by
        obtain ⟨hb1, hb2, hn, c, bo, e4, hx⟩ := newS_raw e
        refine ⟨c, _, e4, .al _ _ _ hn, fun _ w0 V w ev hm hd _ => ?_⟩
        obtain ⟨vals, A, cap, h4, h5, h6, h7, h8⟩ := nw hm hd
        have hy := hd (s, y) (by simp)
        obtain ⟨ovals, ad, ocap, g4, g5, g6, g7, g8, g9⟩ := holds w0 V w _ hm hy
        obtain ⟨hb, cap', hu, _⟩ := (den8 t).1 hy
        have g4' : ev s = .slice ad olds.length ocap := g4
        have hu' : ev s = _ := hu
        rw [g4'] at hu'
        simp only [Value.slice.injEq] at hu'
        obtain ⟨rfl, g11, rfl⟩ := hu'
        have hlt := hcap V w0 w _ _ _ hm (by simp only at hy; rw [g4'] at hy; exact hy)
        rw [List.length_append] at hb1 hb2
        obtain ⟨c1, c2⟩ := big _ hb1 hb2 (by omega)
        have hrun := run_append_grow (P := P) w ty o.type el i zz hE.und hi hiz _ olds.length ocap ovals (by rw [g5, his]) (g7 _ rfl) A news.length cap vals (by rw [h5, his]) h6 hlt c1 (growslice_fits hlt (by rw [hib]; exact hb1))
        rw [run1 (by rw [g4', h4]; exact hrun)]
        have hge := grownCap_ge w (olds.length + news.length) ocap el
        obtain ⟨d1, d2, d3⟩ := drew_heap w (.cells (ovals.toArray ++ vals.toArray ++ Builtin.zeroCells zz.cells (grownCap w (olds.length + news.length) ocap el - (olds.length + news.length))) el)
        have := new_res (P := P) (bo := bo) hn hx (vals := ovals ++ vals) (rest := (Builtin.zeroCells zz.cells (grownCap w (olds.length + news.length) ocap el - (olds.length + news.length))).toList) (cap := grownCap w (olds.length + news.length) ocap el) (el := el) hm hsz (g9.append h8 g5) (by rw [List.length_append, List.length_append, g5, h5, Nat.add_mul]) (by rw [List.length_append]; exact hge)
          (by rw [List.length_append, List.length_append, g5, h5, zlen, hzc, ← Nat.add_mul, ← Nat.add_mul]; congr 1; omega)
          (by rw [d1]; congr 2; apply Array.ext'; simp) d2 d3 rfl rfl rfl h.fl
        rw [List.length_append] at this
        exact this
      rcases cndR_some e5 with ⟨tc, e6⟩ | ⟨tc, e6⟩
      · -- clipped
        have tc := beqT tc
        obtain ⟨olds, e7, holds⟩ := contK_some e6
        rw [appL_eq] at e7
        refine grow olds e7 holds fun V w0 w ad n cap hm hy => ?_
        obtain ⟨_, cap', hu, _, h4, _⟩ := (den8 t).1 hy
        simp only [Value.slice.injEq] at hu
        rw [hu.2.2, h4 tc, ← hu.2.1]; omega
      · have tc : y.n / 32 % 2 = 0 := by have := beqF tc; omega
        obtain ⟨bn, rows, hg, hk, e7⟩ := rowsK_some e6
        obtain ⟨t2, e8⟩ := cndR_t e7
        have t2 := beqT t2
        obtain ⟨t3, e9⟩ := cndR_t e8
        have t3 : y.n / 64 / 1048576 % 1048576 % (bn / 32) = 0 := beqT t3
        rw [t2] at t3
        have e10 : cndR (Nat.ble (Nat.add (Nat.add (Nat.div (y.n / 64 / 1048576 % 1048576) (bn / 32)) (y.n / 64 % 1048576)) (lenL news)) (lenL rows)) ((splB (Nat.add (Nat.div (y.n / 64 / 1048576 % 1048576) (bn / 32)) (y.n / 64 % 1048576))).f rows news fun rows => putK (y.n / 64 / 1048576 / 1048576) ⟨bn, rows, oZ⟩ h fun h => slX (y.n / 64 / 1048576 / 1048576) (y.n / 64 / 1048576 % 1048576) (Nat.add (y.n / 64 % 1048576) (lenL news)) 0 h k)
              (contK sz y h fun olds => appL olds news fun rows => cndR (Nat.beq (Nat.land bn 31) 1) (newS sz by_ rows h k) (cndR (Nat.beq (y.n / 64 / 1048576 % 1048576) 0) (putK (y.n / 64 / 1048576 / 1048576) (mk0 0) h fun h => newS sz by_ rows h k) none)) = some r := e9
        rw [lenL_eq, lenL_eq, t2] at e10
        have base : ∀ {w0 V w u}, MR w0 V h w → den V y u → V.S (y.n / 64 / 1048576 / 1048576) ∧ ∃ cap, u = .slice (some ⟨V.ρ (y.n / 64 / 1048576 / 1048576), y.n / 64 / 1048576 % 1048576, none⟩) (y.n / 64 % 1048576) cap ∧ y.n / 64 % 1048576 ≤ cap ∧
            y.n / 64 / 1048576 % 1048576 + cap * sz = V.σ (y.n / 64 / 1048576 / 1048576) ∧ V.ε (y.n / 64 / 1048576 / 1048576) = sz := fun hm hd => by
          obtain ⟨hb, cap, hu, h3, _, h5⟩ := (den8 t).1 hd
          obtain ⟨_, h6, _⟩ := hm.rows hb hg hk
          rw [t2] at h6
          exact ⟨hb, cap, hu, h3, by rw [h6]; exact h5 tc, h6.symm⟩
        have hoff : y.n / 64 / 1048576 % 1048576 = Nat.div (y.n / 64 / 1048576 % 1048576) sz * sz := by
          have := Nat.div_add_mod' (y.n / 64 / 1048576 % 1048576) sz
          rw [t3] at this
          exact this.symm
        clear e9 e8 e7 e6 e5 e4 e3 e2 t3
        generalize y.n / 64 / 1048576 / 1048576 = b at *
        generalize y.n / 64 / 1048576 % 1048576 = off at *
        generalize y.n / 64 % 1048576 = len at *
        generalize hq : Nat.div off sz = q at *
        rcases cndR_some e10 with ⟨t4, e11⟩ | ⟨t4, e11⟩
        · -- there is room in the block
          have t4 : q + len + news.length ≤ rows.length := bleT t4
          obtain ⟨_, e12⟩ := splB_some e11
          obtain ⟨hfl, hb', e13⟩ := putK_some e12
          obtain ⟨hso, hsl, c, e14, hx⟩ := slX_some e13 (by decide)
          have hsl : len + news.length < 1048576 := hsl
          have hx : ∀ (V : Vw) (cap : Nat), V.S b → len + news.length ≤ cap → ((0 : Nat) = 1 → cap = len + news.length) → ((0 : Nat) = 0 → off + cap * V.ε b = V.σ b) → den V c (.slice (some ⟨V.ρ b, off, none⟩) (len + news.length) cap) := hx
          refine ⟨c, _, e14, .put hfl hb', fun _ w0 V w ev hm hd _ => ?_⟩
          obtain ⟨vals, A, cap, h4, h5, h6, h7, h8⟩ := nw hm hd
          have hy := hd (s, y) (by simp)
          obtain ⟨hb, cap0, hu, g1, g2, g3⟩ := base hm hy
          obtain ⟨_, g4, _, _, g5, cells, cty, g6, g7, g8⟩ := hm.rows hb hg hk
          rw [g3] at g5 g8
          have hmul : (q + len + news.length) * sz ≤ rows.length * sz := Nat.mul_le_mul_right _ t4
          have m1 : (q + len + news.length) * sz = q * sz + len * sz + news.length * sz := by rw [Nat.add_mul, Nat.add_mul]
          have hfits : len + news.length ≤ cap0 := by
            have m2 : (len + news.length) * sz = len * sz + news.length * sz := Nat.add_mul _ _ _
            have : (len + news.length) * sz ≤ cap0 * sz := by omega
            exact Nat.le_of_mul_le_mul_right this hsz
          have hst := run_storeCells_at P (V.ρ b) (off + len * sz) cty vals 0 cells w g6 (by omega) h7
          simp only [Nat.add_zero, List.append_assoc] at hst
          have hfc : (Builtin.firstCells sz news.length (.slice (some A) news.length cap)).run P w = .ok vals.toArray w := run_firstCells_some w sz news.length A news.length cap vals h5 h6
          have hu' : ev s = .slice (some ⟨V.ρ b, off, none⟩) len cap0 := hu
          have hrun : (Builtin.append_ #[ty, ty] o.type #[ev s, ev x]).run P w = .ok (.slice (some ⟨V.ρ b, off, none⟩) (len + news.length) cap0) (w.setRow (V.ρ b) (Go.Eng.pasted cells (off + len * sz) vals.toArray)) := by
            rw [hu', h4]
            simp [Builtin.append_, run_underlying hE.und, sizeOf, typeInfo, hi, Builtin.lenOf, hfits, hfc, Go.Eng.add_plain, his, hst, Go.Eng.pasted]
          rw [run1 hrun]
          have hpos2 : off + len * sz = (q + len) * sz := by rw [Nat.add_mul, ← hoff]
          have hvs : vals.toArray.size = news.length * sz := by simpa using h5
          have hsp := g8.splice (q := q + len) h8 t4 hvs (by rw [hvs, ← hpos2]; omega)
          rw [← hpos2] at hsp
          have hps := Go.Eng.pasted_size cells (off + len * sz) vals.toArray (by rw [hvs]; omega)
          obtain ⟨r1, r2⟩ := hm.turn (fl := h.fl) (w' := w.setRow (V.ρ b) (Go.Eng.pasted cells (off + len * sz) vals.toArray)) (o' := oZ) hb hfl hg hk (fun k hk => Go.Eng.heap_setRow_other w _ k _ hk) (by simp) rfl rfl rfl
            (setRow_heap w (V.ρ b) cells _ cty (0, 0) g6) (by rw [hps, g7]) (splB_len t4) (by rw [g3]; exact hsp)
          exact ⟨_, _, V, .inl rfl, r1, hx V cap0 hb hfits (fun hh => by cases hh) (fun _ => by rw [g3]; exact g2), r2⟩
        · have t4 : rows.length < q + len + news.length := bleF t4
          obtain ⟨olds, e12, holds⟩ := contK_some e11
          rw [appL_eq] at e12
          rcases cndR_some e12 with ⟨t5, e13⟩ | ⟨t5, e13⟩
          · -- all its cells are told
            have t5 := tagT t5
            refine grow olds e13 holds fun V w0 w ad n cap hm hy => ?_
            obtain ⟨hb, cap', hu, _, g2, g3⟩ := base hm hy
            simp only [Value.slice.injEq] at hu
            obtain ⟨_, _, _, g4, _⟩ := hm.rows hb hg hk
            have g4 := g4 t5
            rw [g3] at g4
            have : (q + cap') * sz = rows.length * sz := by rw [Nat.add_mul, ← hoff, g4, g2]
            have := Nat.eq_of_mul_eq_mul_right hsz this
            rw [hu.2.1, hu.2.2]; omega
          · -- there may be room behind them
            obtain ⟨t6, e14⟩ := cndR_t e13
            have t6 := beqT t6
            subst t6
            have hq0 : q = 0 := by rw [← hq]; exact Nat.zero_div _
            subst hq0
            obtain ⟨hfl, hb', e15⟩ := putK_some e14
            obtain ⟨hb1, hb2, hn, c, bo, e16, hx⟩ := newS_raw e15
            have hn' : h.n < 65536 := hn
            refine ⟨c, _, e16, (HLe.put hfl hb').trans (.al _ _ _ hn), fun _ w0 V w ev hm hd _ => ?_⟩
            obtain ⟨vals, A, cap, h4, h5, h6, h7, h8⟩ := nw hm hd
            have hy := hd (s, y) (by simp)
            obtain ⟨hb, cap0, hu, g1, g2, g3⟩ := base hm hy
            obtain ⟨gl, _, _, _, g5, cells, cty, g6, g7, g8⟩ := hm.rows hb hg hk
            obtain ⟨ovals, ad, ocap, o4, o5, o6, o7, o8, o9⟩ := holds w0 V w _ hm hy
            have hu' : ev s = .slice (some ⟨V.ρ b, 0, none⟩) len cap0 := hu
            have o4' : ev s = .slice ad olds.length ocap := o4
            rw [hu'] at o4'
            simp only [Value.slice.injEq] at o4'
            obtain ⟨rfl, rfl, rfl⟩ := o4'
            obtain ⟨km, ks⟩ := hm.kill hb hfl gl
            have hkl : ¬ live (gH (hPut h b (mk0 0)) b) := by
              rw [show gH (hPut h b (mk0 0)) b = mk0 0 by
                show (tr8.get b).g (tr8.pt h.t b (mk0 0)) = _
                rw [gH_pt hb' hb', if_pos rfl]]
              unfold live; simp
            have hno : ∀ k, V.S k → live (gH (hPut h b (mk0 0)) k) → V.ρ k ≠ V.ρ b := fun k hk hlk hρ => by
              by_cases e : k = b
              · subst e; exact hkl hlk
              · have : gH (hPut h b (mk0 0)) k = gH h k := by
                  show (tr8.get k).g (tr8.pt h.t b (mk0 0)) = _
                  rw [gH_pt hb' (hm.nb k hk).2, if_neg e]
                rw [this] at hlk
                exact e (hm.inj k b hk hb hlk gl hρ)
            rw [List.length_append] at hb1 hb2
            obtain ⟨c1, c2⟩ := big _ hb1 hb2 (by omega)
            by_cases hroom : olds.length + news.length ≤ cap0
            · -- in place
              have m1 : (olds.length + news.length) * sz ≤ cap0 * sz := Nat.mul_le_mul_right _ hroom
              have m2 : (olds.length + news.length) * sz = olds.length * sz + news.length * sz := Nat.add_mul _ _ _
              have hst := run_storeCells_at P (V.ρ b) (olds.length * sz) cty vals 0 cells w g6 (by omega) h7
              simp only [Nat.add_zero, List.append_assoc] at hst
              have hfc : (Builtin.firstCells sz news.length (.slice (some A) news.length cap)).run P w = .ok vals.toArray w := run_firstCells_some w sz news.length A news.length cap vals h5 h6
              have hrun : (Builtin.append_ #[ty, ty] o.type #[ev s, ev x]).run P w = .ok (.slice (some ⟨V.ρ b, 0, none⟩) (olds.length + news.length) cap0) (w.setRow (V.ρ b) (Go.Eng.pasted cells (olds.length * sz) vals.toArray)) := by
                rw [hu', h4]
                simp [Builtin.append_, run_underlying hE.und, sizeOf, typeInfo, hi, Builtin.lenOf, hroom, hfc, Go.Eng.add_plain, his, hst, Go.Eng.pasted]
              rw [run1 hrun]
              have hvs : vals.toArray.size = news.length * sz := by simpa using h5
              have hps := Go.Eng.pasted_size cells (olds.length * sz) vals.toArray (by rw [hvs]; omega)
              have hE2 : Ext V (addV V (hPut h b (mk0 0)).n (V.ρ b) (V.σ b) sz) := addV_ext hm.notS
              have hR : RowsR V sz (olds ++ news) (Go.Eng.pasted cells (olds.length * sz) vals.toArray) := by
                have hA : RowsR V sz (olds ++ news) (ovals ++ vals).toArray := o9.append h8 o5
                intro k row hk
                obtain ⟨a1, a2, a3⟩ := hA k row hk
                refine ⟨a1, a2, fun j c hj => ?_⟩
                obtain ⟨u, a4, a5⟩ := a3 j c hj
                refine ⟨u, ?_, a5⟩
                rw [List.getElem?_toArray] at a4
                have hlt : k * sz + j < (ovals ++ vals).length := (List.getElem?_eq_some_iff.1 a4).1
                rw [List.length_append, o5, h5] at hlt
                rw [Go.Eng.pasted_get _ _ _ (by rw [hvs]; omega), hvs]
                by_cases hko : k * sz + j < olds.length * sz
                · rw [if_pos hko]
                  rw [List.getElem?_append_left (by rw [o5]; exact hko)] at a4
                  have := o7 _ rfl _ _ a4
                  rw [add_at, Go.Eng.cell_heap g6, Nat.zero_add] at this
                  exact this
                · rw [if_neg hko, if_pos (by omega)]
                  rw [List.getElem?_append_right (by rw [o5]; omega), o5] at a4
                  simpa using a4
              have hB : BlkR (addV V (hPut h b (mk0 0)).n (V.ρ b) (V.σ b) sz) (w.setRow (V.ρ b) (Go.Eng.pasted cells (olds.length * sz) vals.toArray)) (hPut h b (mk0 0)).n ⟨32 * sz + 2, olds ++ news, bo⟩ := by
                unfold BlkR
                simp only [show (32 * sz + 2) % 32 = 2 by omega]
                rw [addV_ρ, addV_σ, addV_ε]
                exact ⟨_, cty, setRow_heap w (V.ρ b) cells _ cty (0, 0) g6, by rw [hps, g7], by omega, hsz, by rw [List.length_append]; omega, hR.mono hE2⟩
              obtain ⟨r1, r2⟩ := km.rename (fl := h.fl) hn hb hfl hkl hno (w' := w.setRow (V.ρ b) (Go.Eng.pasted cells (olds.length * sz) vals.toArray)) (fun k hk => Go.Eng.heap_setRow_other w _ k _ hk) (by simp) rfl rfl rfl hB
              have hxx := hx (addV V (hPut h b (mk0 0)).n (V.ρ b) (V.σ b) sz) cap0 (.inr rfl) (by rw [List.length_append]; exact hroom) (by rw [addV_ε, addV_σ]; omega)
              rw [addV_ρ, List.length_append] at hxx
              exact ⟨_, _, _, .inl rfl, r1, hxx, ks.trans (h' := hPut h b (mk0 0)) (Nat.le_refl _) r2⟩
            · -- moved
              have hlt : cap0 < olds.length + news.length := by omega
              have hrun := run_append_grow (P := P) w ty o.type el i zz hE.und hi hiz _ olds.length cap0 ovals (by rw [o5, his]) (o7 _ rfl) A news.length cap vals (by rw [h5, his]) h6 hlt c1 (growslice_fits hlt (by rw [hib]; exact hb1))
              rw [run1 (by rw [hu', h4]; exact hrun)]
              have hge := grownCap_ge w (olds.length + news.length) cap0 el
              obtain ⟨d1, d2, d3⟩ := drew_heap w (.cells (ovals.toArray ++ vals.toArray ++ Builtin.zeroCells zz.cells (grownCap w (olds.length + news.length) cap0 el - (olds.length + news.length))) el)
              have := new_res (P := P) (bo := bo) hn hx (vals := ovals ++ vals) (rest := (Builtin.zeroCells zz.cells (grownCap w (olds.length + news.length) cap0 el - (olds.length + news.length))).toList) (cap := grownCap w (olds.length + news.length) cap0 el) (el := el) km hsz (o9.append h8 o5) (by rw [List.length_append, List.length_append, o5, h5, Nat.add_mul]) (by rw [List.length_append]; exact hge)
                (by rw [List.length_append, List.length_append, o5, h5, zlen, hzc, ← Nat.add_mul, ← Nat.add_mul]; congr 1; omega)
                (by rw [d1]; congr 2; apply Array.ext'; simp) d2 d3 rfl rfl rfl h.fl
              rw [List.length_append] at this
              exact Res.pre (h1 := hPut h b (mk0 0)) (Nat.le_refl _) ks this
end
end
end Go.M
namespace Go.M
open Go
open Go.Eng (SOp SOper SCode)
noncomputable section
variable [Ctxt]
abbrev FX := T3
abbrev Loc := List X
structure Ac where
  g : FX → Loc → X
structure FO where
  f : FX → Loc → Hp → Kx → R
abbrev Kc := Nat → FX → Hp → R
structure FR where
  f : FX → Loc → Hp → Kc → R
structure FCd where
  f : FX → Hp → (Nat → FX → Hp → R) → R
structure FC where
  f : List X → Hp → Kx → R
def foN : FO := ⟨fun _ _ _ _ => none⟩
def frN : FR := ⟨fun _ _ _ _ => none⟩
def fcdN : FCd := ⟨fun _ _ _ => none⟩
def fcN : FC := ⟨fun _ _ _ => none⟩
def xBad : X := ⟨31, [], oZ⟩
def accS (j : Nat) : Ac := ⟨fun fr _ => (tr3.get j).g fr⟩
def accL (i : Nat) : Ac := @Nat.rec (fun _ => Ac) ⟨fun _ l => rcL l xBad fun x _ => x⟩ (fun _ ih => ⟨fun fr l => rcL l xBad fun _ t => ih.g fr t⟩) i
def encC (v : Value) : X := match v with
  | .tuple #[] => xU
  | v => encV v
def oneB (v : Value) : Bool := v.oneCell'
def accC (x : X) : Ac := @X.rec (fun _ => Ac) (fun _ => Unit) (fun n l o _ => @Nat.rec (fun _ => Ac) ⟨fun _ _ => x⟩ (fun m _ => ⟨fun _ _ => ⟨m, l, o⟩⟩) (Nat.succ n)) () (fun _ _ _ _ => ()) x
inductive D where
  | loc (p : Nat)
  | slot (j : Nat)
  | con (x : X)
structure AL where
  p : Nat
  off : Nat
  gd : Option (Nat × Bool)
structure En where
  T : List (Nat × D)
  A : List (Nat × AL)
  C : List (Nat × D)
  n : Nat
def lk {α : Type} (L : List (Nat × α)) (k : Nat) : Option α := @List.rec (Nat × α) (fun _ => Option α) none (fun p _ ih => cnd (Nat.beq p.1 k) (some p.2) ih) L
def ix (G : List Nat) (k : Nat) : Option Nat := @List.rec Nat (fun _ => Option Nat) none (fun j _ ih => cnd (Nat.beq j k) (some 0) (@Option.rec Nat (fun _ => Option Nat) none (fun i => some (Nat.succ i)) ih)) G
def mem (G : List Nat) (k : Nat) : Bool := @List.rec Nat (fun _ => Bool) false (fun j _ ih => cnd (Nat.beq j k) true ih) G
def drp {α : Type} (L : List (Nat × α)) (k : Nat) : List (Nat × α) := @List.rec (Nat × α) (fun _ => List (Nat × α)) [] (fun p _ ih => cnd (Nat.beq p.1 k) ih (p :: ih)) L
structure Cx where
  cl : Nat → FC
  G : List Nat
  PV : List Nat
  FL : List Nat
  fu : Nat
def acD (n : Nat) (d : D) : Ac := @D.rec (fun _ => Ac) (fun p => accL (Nat.sub (Nat.sub n 1) p)) accS accC d
abbrev oD {α : Type} (o : Option D) (z : α) (k : D → α) : α := @Option.rec D (fun _ => α) z (fun d => k d) o
def dT (cx : Cx) (en : En) (k : Nat) : Option D := @Option.rec D (fun _ => Option D) (cnd (mem cx.PV k) none (cnd (@Option.rec AL (fun _ => Bool) false (fun _ => true) (lk en.A k)) none (@Option.rec Nat (fun _ => Option D) none (fun j => some (.slot j)) (ix cx.G k)))) (fun d => some d) (lk en.T k)
def dOf (cx : Cx) (en : En) (x : Operand) : Option D := match x with
  | .tmp k => dT cx en k
  | .const v => cnd (oneB v) (some (.con (encV v))) none
  | .func f => cnd (Nat.blt f 1000000) (some (.con ⟨32 * f + 9, [], oZ⟩)) none
  | .global _ => none
def acOf (cx : Cx) (en : En) (x : Operand) : Option Ac := oD (dOf cx en x) none fun d => some (acD en.n d)
def acsOf (cx : Cx) (en : En) (xs : List Operand) : Option (List Ac) := @List.rec Operand (fun _ => Option (List Ac)) (some []) (fun x _ ih => @Option.rec Ac (fun _ => Option (List Ac)) none (fun a => @Option.rec (List Ac) (fun _ => Option (List Ac)) none (fun as => some (a :: as)) ih) (acOf cx en x)) xs
structure ArgB where
  f : FX → Loc → (List X → R) → R
def argsB (as : List Ac) : ArgB := @List.rec Ac (fun _ => ArgB) ⟨fun _ _ k => k []⟩ (fun a _ ih => ⟨fun fr l k => opn (a.g fr l) fun n m o => ih.f fr l fun xs => k (⟨n, m, o⟩ :: xs)⟩) as
structure BldB where
  f : FX → Loc → List X → (List X → R) → R
def buildB (ps : List (Nat × Nat × Ac)) : BldB := @List.rec (Nat × Nat × Ac) (fun _ => BldB) ⟨fun _ _ c k => k c⟩
  (fun p _ ih => ⟨fun fr l c k => cellsK (p.2.2.g fr l) fun ys => cndR (Nat.beq (lenL ys) p.2.1) ((splB p.1).f c ys fun c => ih.f fr l c k) none⟩) ps
def rowsB (sz : Nat) (ps : List (Nat × Ac)) : BldB := @List.rec (Nat × Ac) (fun _ => BldB) ⟨fun _ _ c k => k c⟩
  (fun p _ ih => ⟨fun fr l c k => cellsK (p.2.g fr l) fun ys => cndR (Nat.beq (lenL ys) sz) ((setB p.1).f c ⟨Nat.add (Nat.mul 32 sz) 2, ys, oZ⟩ fun c => ih.f fr l c k) none⟩) ps
def mapO {α β : Type} (f : α → Option β) : List α → Option (List β)
  | [] => some []
  | x :: l => match f x, mapO f l with
    | some y, some r => some (y :: r)
    | _, _ => none
def xMkmap (h : Hp) (k : Kx) : R := allocK ⟨3, [], oZ⟩ h fun b h => frc (Nat.add (Nat.mul 32 b) 10) fun n => k (mk0 n) h
def keyK (x : X) (k : Nat → R) : R := frc x.n fun n => cndR (Nat.beq (Nat.land n 31) 0) (k n) (cndR (Nat.beq (Nat.land n 31) 4) (k n) none)
def kM (n : Nat) : Nat := cnd (Nat.beq (Nat.land n 31) 0) 31 511
def findK (es : List X) : Nat → (X → R) → R → R := @List.rec X (fun _ => Nat → (X → R) → R → R) (fun _ _ z => z)
  (fun e _ ih n f z => cndR (Nat.beq (Nat.land e.n (kM n)) (Nat.land n (kM n))) (cndR (Nat.beq e.n n) (rcL e.l none fun c _ => f c) (ih n f z)) none) es
def putE (es : List X) : Nat → X → (List X → R) → R := @List.rec X (fun _ => Nat → X → (List X → R) → R) (fun n x k => k [⟨n, [x], oZ⟩])
  (fun e t ih n x k => cndR (Nat.beq (Nat.land e.n (kM n)) (Nat.land n (kM n))) (cndR (Nat.beq e.n n) (k (⟨n, [x], oZ⟩ :: t)) (ih n x fun r => k (e :: r))) none) es
def mapO2 (m : X) (h : Hp) (k : Nat → List X → R) : R := frc m.n fun n => cndR (Nat.beq (Nat.land n 31) 10) (frc (Nat.shiftRight n 5) fun b => getK b h fun bn es => cndR (Nat.beq bn 3) (k b es) none) none
def xLook (z m y : X) (h : Hp) (k : Kx) : R := mapO2 m h fun _ es => keyK y fun n => findK es n (fun c => k c h) (k z h)
def xLook2 (z m y : X) (h : Hp) (k : Kx) : R := mapO2 m h fun _ es => keyK y fun n => findK es n (fun c => k ⟨3, [c, xT], oZ⟩ h) (k ⟨3, [z, xF], oZ⟩ h)
def xMput (m y x : X) (h : Hp) (k : Kx) : R := mapO2 m h fun b es => keyK y fun n => opn x fun a l o => putE es n ⟨a, l, o⟩ fun es => putK b ⟨3, es, oZ⟩ h fun h => k xU h
def LenFact (a c : X) : Prop := ∃ s : ByteArray, dvX a = some (.string s) ∧ dvX c = some (.int .i64 s.size)
def xSlen (a : X) (h : Hp) (k : Kx) : R := cndR (isSym a) (orcK (LenFact a) h k) (dvK a fun u => match u with
  | .string s => sealV (.int .i64 (Int.ofNat s.data.toList.length)) fun x => k x h
  | _ => none)
def bytesX : List X → Option (List UInt8)
  | [] => some []
  | x :: l => match x.l, bytesX l with
    | [c], some r => bif Nat.beq (Nat.land c.n 511) 4 then some ((Nat.shiftRight c.n 9).toUInt8 :: r) else none
    | _, _ => none
def xB2s (s : X) (h : Hp) (k : Kx) : R := contK 1 s h fun rows => @Option.rec (List UInt8) (fun _ => R) none (fun l => k ⟨12, [], .string ⟨l.toArray⟩⟩ h) (bytesX rows)
def xIdxs (s i : X) (h : Hp) (k : Kx) : R := dvK s fun u => match u with
  | .string s => frc (s.data.toList.length) fun len => idxK i len fun i => sealV (.int .u8 (Int.ofNat (s.data.toList.getD i 0).toNat)) fun x => k x h
  | _ => none
def xCap (s : X) (h : Hp) (k : Kx) : R := frc s.n fun n => cndR (Nat.beq n 6) (k (mk0 0) h) (cndR (Nat.beq (Nat.land n 31) 8) (slO n fun b off len c => cndR (Nat.beq c 1) (frc (Nat.mul 32 len) fun m => k (mk0 m) h)
  (rowsK b h fun bn e rows => cndR (Nat.beq (Nat.land bn 31) 1) (frc (Nat.div (Nat.sub (Nat.mul e (lenL rows)) off) e) fun m => frc (Nat.mul 32 m) fun m => k (mk0 m) h) none)) none)
def xSarr (n sz : Nat) (p : X) (h : Hp) (k : Kx) : R := cndR (Nat.beq n 0) none (ptrO p fun b off => rowsK b h fun bn e rows => cndR (Nat.beq e sz) (cndR (Nat.beq (Nat.land bn 31) 1) (cndR (Nat.beq (Nat.add off (Nat.mul n sz)) (Nat.mul (lenL rows) e)) (slX b off n 0 h k) none) none) none)
abbrev St := En → (En → FR) → FR
def gdIs (g : Option (Nat × Bool)) (t : Nat) : Bool := @Option.rec (Nat × Bool) (fun _ => Bool) false (fun p => Nat.beq p.1 t) g
def drA (L : List (Nat × AL)) (t : Nat) : List (Nat × AL) := @List.rec (Nat × AL) (fun _ => List (Nat × AL)) [] (fun p _ ih => cnd (Nat.beq p.1 t) ih (cnd (gdIs p.2.gd t) ih (p :: ih))) L
def anyA (L : List (Nat × AL)) (p : Nat) : Bool := @List.rec (Nat × AL) (fun _ => Bool) false (fun a _ ih => cnd (Nat.beq a.2.p p) true ih) L
def bindD (en : En) (t : Nat) (d : D) : En := ⟨(t, d) :: drp en.T t, drA en.A t, en.C, en.n⟩
def bindL (en : En) (t : Nat) : En := ⟨(t, .loc en.n) :: drp en.T t, drA en.A t, en.C, Nat.succ en.n⟩
def bindA (en : En) (t : Nat) (a : AL) : En := ⟨drp en.T t, (t, a) :: drA en.A t, en.C, en.n⟩
def emit (f : FO) (dst : Option Nat) (en : En) (ih : En → FR) : FR := @Option.rec Nat (fun _ => FR) ⟨fun fr l h k => f.f fr l h fun _ h => (ih en).f fr l h k⟩
  (fun t => ⟨fun fr l h k => f.f fr l h fun x h => (ih (bindL en t)).f fr (x :: l) h k⟩) dst
abbrev oA (a : Option Ac) (k : Ac → FO) : FO := @Option.rec Ac (fun _ => FO) foN (fun a => k a) a
abbrev oR {α : Type} (a : Option α) (k : α → FR) : FR := @Option.rec α (fun _ => FR) frN (fun a => k a) a
def sealX {α : Type} (x : X) (z : α) (k : X → α) : α := @X.rec (fun _ => α) (fun _ => Unit) (fun n l o _ => @Nat.rec (fun _ => α) z (fun m _ => k ⟨m, l, o⟩) (Nat.succ n)) () (fun _ _ _ _ => ()) x
def zsOf (zs : List Value) : List X := zs.map encV
def lenA (s : Ac) : Ac := ⟨fun fr l => ⟨Nat.mul 32 (cnd (Nat.beq (Nat.land (s.g fr l).n 31) 8) (Nat.land (Nat.shiftRight (s.g fr l).n 6) 1048575) 0), [], oZ⟩⟩
def guardF (a : Ac) (want : Bool) (f : FO) : FO := cnd want
  ⟨fun fr l h k => frc (a.g fr l).n fun n => cndR (Nat.beq n 33) (f.f fr l h k) (cndR (Nat.beq n 1) (k xU h) (cndR (Nat.beq n 14) (k xU h) none))⟩
  ⟨fun fr l h k => frc (a.g fr l).n fun n => cndR (Nat.beq n 1) (f.f fr l h k) (cndR (Nat.beq n 33) (k xU h) (cndR (Nat.beq n 14) (k xU h) none))⟩
def floorF (f : FO) : FO := ⟨fun fr l h k => recH h fun n fl t fa q => f.f fr l ⟨n, n, t, fa, q⟩ fun x h => recH h fun n _ t fa q => k x ⟨n, fl, t, fa, q⟩⟩
structure OL where
  dst : Option Nat
  op : SOp
  gd : Option (Nat × Bool)
  flo : Bool
  vp : Option (Option Nat)
def gen (cx : Cx) (o : OL) (en : En) (ih : En → FR) (f : FO) : FR :=
  @Option.rec (Nat × Bool) (fun _ => FR) (emit (cnd o.flo (floorF f) f) o.dst en ih) (fun g => oR (acOf cx en (.tmp g.1)) fun a => emit (guardF a g.2 (cnd o.flo (floorF f) f)) o.dst en ih) o.gd
abbrev Pl := Cx → OL → En → (En → FR) → FR
def p1 (f : X → Hp → Kx → R) (x : Operand) : Pl := fun cx o en ih => oR (acOf cx en x) fun a => gen cx o en ih ⟨fun fr l h k => f (a.g fr l) h k⟩
def p2 (f : X → X → Hp → Kx → R) (x y : Operand) : Pl := fun cx o en ih => oR (acOf cx en x) fun a => oR (acOf cx en y) fun b => gen cx o en ih ⟨fun fr l h k => f (a.g fr l) (b.g fr l) h k⟩
def p3 (f : X → X → X → Hp → Kx → R) (x y z : Operand) : Pl := fun cx o en ih => oR (acOf cx en x) fun a => oR (acOf cx en y) fun b => oR (acOf cx en z) fun c => gen cx o en ih ⟨fun fr l h k => f (a.g fr l) (b.g fr l) (c.g fr l) h k⟩
def ptrP (cx : Cx) (en : En) (x : Operand) : Option AL := match x with
  | .tmp k => @Option.rec AL (fun _ => Option AL) (cnd (mem cx.PV k) (some ⟨k, 0, none⟩) none) (fun a => some a) (lk en.A k)
  | _ => none
def sameG (g g' : Option (Nat × Bool)) : Bool := match g, g' with
  | none, _ => true
  | some (a, b), some (a', b') => Nat.beq a a' && (b == b')
  | _, _ => false
def cont (cx : Cx) (en : En) (p : Nat) (k : D → En → FR) : FR := @Option.rec D (fun _ => FR) (oR (ix cx.G p) fun j => ⟨fun fr l h k' => frc ((accS j).g fr []).n fun m => cndR (Nat.beq m 14) none ((k (.slot j) ⟨en.T, en.A, (p, .slot j) :: en.C, en.n⟩).f fr l h k')⟩)
  (fun d => k d en) (lk en.C p)
def setC (en : En) (p : Nat) (d : D) : En := ⟨en.T, en.A, (p, d) :: drp en.C p, en.n⟩
def xLoadC (ag : Bool) (off sz : Nat) (c : X) (h : Hp) (k : Kx) : R := opn c fun n l o => cndR (Nat.beq (Nat.land n 31) 2)
  (cndR ag (cndR (Nat.beq n (Nat.add (Nat.mul 32 sz) 2)) (cndR (Nat.beq off 0) (k ⟨n, l, o⟩ h) none) ((dropB off).f l fun c => (takeB sz).f c fun c => k ⟨Nat.add (Nat.mul 32 sz) 2, c, oZ⟩ h)) ((nthB off).f l fun c => xMov c h k))
  (cndR (Nat.beq off 0) (cndR ag none (k ⟨n, l, o⟩ h)) none)
def xStoreC (off sz : Nat) (c y : X) (h : Hp) (k : Kx) : R := opn c fun n l _ => opn y fun m r o => cndR (Nat.beq n m) (cndR (Nat.beq off 0) (cndR (Nat.beq n (Nat.add (Nat.mul 32 sz) 2)) (k ⟨m, r, o⟩ h) (cndR (Nat.beq (Nat.land n 31) 2) none (cndR (Nat.beq sz 1) (cndR (Nat.beq (Nat.land m 31) 3) none (cndR (Nat.beq (Nat.land m 31) 14) none (k ⟨m, r, o⟩ h))) none))) none)
  (cndR (Nat.beq (Nat.land n 31) 2)
    (cndR (Nat.beq (Nat.land m 31) 2) (cndR (Nat.beq m (Nat.add (Nat.mul 32 sz) 2)) ((splB off).f l r fun c => k ⟨n, c, oZ⟩ h) none)
      (cndR (Nat.beq sz 1) (cndR (Nat.beq (Nat.land m 31) 3) none (cndR (Nat.beq (Nat.land m 31) 14) none ((setB off).f l ⟨m, r, o⟩ fun c => k ⟨n, c, oZ⟩ h))) none))
    (cndR (Nat.beq off 0) (cndR (Nat.beq sz 1) (cndR (Nat.beq (Nat.land m 31) 2) none (cndR (Nat.beq (Nat.land m 31) 3) none (cndR (Nat.beq (Nat.land m 31) 14) none (k ⟨m, r, o⟩ h)))) none) none))
def xOne (y : X) (h : Hp) (k : Kx) : R := opn y fun n l o => cndR (Nat.beq (Nat.land n 31) 3) none (cndR (Nat.beq (Nat.land n 31) 14) none (k ⟨n, l, o⟩ h))
def newV (cx : Cx) (o : OL) (en : En) (p : Nat) (d : D) (ih : En → FR) : FR := cnd (anyA en.A p) frN (ih ⟨drp en.T p, drA en.A p, (p, d) :: drp en.C p, en.n⟩)
def vpOk (v : Option (Option Nat)) (a : Option AL) : Bool := @Option.rec (Option Nat) (fun _ => Bool) true (fun q => @Option.rec Nat (fun _ => Bool) (@Option.rec AL (fun _ => Bool) true (fun _ => false) a) (fun p => @Option.rec AL (fun _ => Bool) false (fun a => Nat.beq a.p p) a) q) v
def gchk (cx : Cx) (en : En) (g : Option (Nat × Bool)) (kk : FR) : FR := @Option.rec (Nat × Bool) (fun _ => FR) kk (fun g => oR (acOf cx en (.tmp g.1)) fun a =>
  ⟨fun fr l h k => frc (a.g fr l).n fun n => cndR (Nat.beq n 33) (kk.f fr l h k) (cndR (Nat.beq n 1) (kk.f fr l h k) (cndR (Nat.beq n 14) (kk.f fr l h k) none))⟩) g
def setA (cx : Cx) (en : En) (t : Nat) (a : AL) (ih : En → FR) : FR := cnd (mem cx.G t) frN (ih (bindA en t a))
def pushC (en : En) (p : Nat) : En := ⟨en.T, en.A, (p, .loc en.n) :: drp en.C p, Nat.succ en.n⟩
def noG (o : OL) (r : FR) : FR := @Option.rec (Nat × Bool) (fun _ => FR) r (fun _ => frN) o.gd
def cMov (x : Operand) : Pl := fun cx o en ih => cnd (vpOk o.vp (ptrP cx en x)) (@Option.rec AL (fun _ => FR)
  (@Option.rec (Nat × Bool) (fun _ => FR) (@Option.rec Nat (fun _ => FR) (ih en) (fun t => oR (dOf cx en x) fun d => @D.rec (fun _ => FR) (fun p => ih (bindD en t (.loc p))) (fun j => ih (bindD en t (.slot j))) (fun x => sealX x frN fun x => ih (bindD en t (.con x))) d) o.dst) (fun _ => p1 xMov x cx o en ih) o.gd)
  (fun a => oR o.dst fun t => cnd (sameG a.gd o.gd) (cont cx en a.p fun _ en => gchk cx en o.gd (setA cx en t ⟨a.p, a.off, o.gd⟩ ih)) frN) (ptrP cx en x)) frN
def szOf (FL : List Nat) (t : Nat) : Nat := @List.rec Nat (fun _ => Nat) 0 (fun q _ ih => cnd (Nat.beq (Nat.mod q 1048576) t) (cnd (Nat.blt q 1048576) ih (Nat.div q 1048576)) ih) FL
def chunk (sz m : Nat) : List X → List X := @Nat.rec (fun _ => List X → List X) (fun _ => []) (fun _ ih l => ⟨32 * sz + 2, l.take sz, oZ⟩ :: ih (l.drop sz)) m
def blkA (zs : List Value) (sz : Nat) : X := cnd (Nat.beq sz 0) ⟨32 * zs.length + 1, [⟨32 * zs.length + 2, zsOf zs, oZ⟩], oZ⟩
  (cnd (Nat.beq (Nat.mul (Nat.div zs.length sz) sz) zs.length) ⟨32 * sz + 1, chunk sz (Nat.div zs.length sz) (zsOf zs), oZ⟩ ⟨32 * zs.length + 1, [⟨32 * zs.length + 2, zsOf zs, oZ⟩], oZ⟩)
def cAlloc (zs : List Value) : Pl := fun cx o en ih => cnd (zs.all oneB && Nat.blt 0 zs.length) (sealX ⟨32 * zs.length + 2, zsOf zs, oZ⟩ frN fun z =>
  @Option.rec Nat (fun _ => FR) frN (fun t => cnd (mem cx.PV t) (noG o (cnd (Nat.beq zs.length 1) (oR zs.head? fun v => sealX (encV v) frN fun z => newV cx o en t (.con z) ih) (newV cx o en t (.con z) ih)))
    (sealX (blkA zs (szOf cx.FL t)) frN fun blk => gen cx o en ih ⟨fun _ _ h k => allocP blk h k⟩)) o.dst) frN
def cBox (x : Operand) : Pl := fun cx o en ih => @Option.rec Nat (fun _ => FR) frN (fun t => cnd (mem cx.PV t) (noG o (oR (acOf cx en x) fun a => ⟨fun fr l h k => xOne (a.g fr l) h fun y h => (newV cx o ⟨en.T, en.A, en.C, Nat.succ en.n⟩ t (.loc en.n) ih).f fr (y :: l) h k⟩)) (p1 xBox x cx o en ih)) o.dst
def cLoad (ag : Bool) (sz : Nat) (x : Operand) : Pl := fun cx o en ih => cnd (vpOk o.vp (ptrP cx en x)) (@Option.rec AL (fun _ => FR) (p1 (xLoad ag sz) x cx o en ih)
  (fun a => cnd (sameG a.gd o.gd) (cont cx en a.p fun d en => gen cx o en ih ⟨fun fr l h k => xLoadC ag a.off sz ((acD en.n d).g fr l) h k⟩) frN) (ptrP cx en x)) frN
def cStore (sz : Nat) (x y : Operand) : Pl := fun cx o en ih => cnd (vpOk o.vp (ptrP cx en x)) (@Option.rec AL (fun _ => FR) (p2 (xStore sz) x y cx o en ih)
  (fun a => noG o (cnd (sameG a.gd none) (cont cx en a.p fun d en => oR (acOf cx en y) fun b => ⟨fun fr l h k => xStoreC a.off sz ((acD en.n d).g fr l) (b.g fr l) h fun x h => (ih (pushC en a.p)).f fr (x :: l) h k⟩) frN)) (ptrP cx en x)) frN
def cFaddr (off : Nat) (x : Operand) : Pl := fun cx o en ih => cnd (vpOk o.vp (ptrP cx en x)) (@Option.rec AL (fun _ => FR) (p1 (xFaddr off) x cx o en ih)
  (fun a => oR o.dst fun t => cnd (sameG a.gd o.gd) (cont cx en a.p fun _ en => gchk cx en o.gd (setA cx en t ⟨a.p, Nat.add a.off off, o.gd⟩ ih)) frN) (ptrP cx en x)) frN
def cNilc (x : Operand) : Pl := fun cx o en ih => cnd (vpOk o.vp (ptrP cx en x)) (@Option.rec AL (fun _ => FR) (p1 xNilc x cx o en ih)
  (fun a => oR o.dst fun t => cnd (sameG a.gd o.gd) (cont cx en a.p fun _ en => gchk cx en o.gd (setA cx en t ⟨a.p, a.off, o.gd⟩ ih)) frN) (ptrP cx en x)) frN
def cBuild (zs : List Value) (ps : List (Nat × Nat × Operand)) : Pl := fun cx o en ih => cnd (zs.all oneB) (sealX ⟨32 * zs.length + 2, zsOf zs, oZ⟩ frN fun z => oR (mapO (fun p => @Option.rec Ac (fun _ => Option (Nat × Nat × Ac)) none (fun a => some (p.1, p.2.1, a)) (acOf cx en p.2.2)) ps) fun ps =>
  gen cx o en ih ⟨fun fr l h k => (buildB ps).f fr l z.l fun c => k ⟨z.n, c, oZ⟩ h⟩) frN
def cBslice (sz : Nat) (zs : List Value) (len : Nat) (ps : List (Nat × Operand)) : Pl := fun cx o en ih => cnd (zs.all oneB) (sealX ⟨32 * sz + 2, zsOf zs, oZ⟩ frN fun z => oR (mapO (fun p => @Option.rec Ac (fun _ => Option (Nat × Ac)) none (fun a => some (p.1, a)) (acOf cx en p.2)) ps) fun ps =>
  gen cx o en ih ⟨fun fr l h k => (rowsB sz ps).f fr l (repL z len) fun rows => frc (Nat.add (Nat.mul 32 sz) 1) fun e => allocK ⟨e, rows, oZ⟩ h fun b h => slX b 0 len 0 h k⟩) frN
def cFn (f : Nat) (lim : Bool) (cs : List Operand) : Pl := fun cx o en ih => cnd lim (oR (acsOf cx en cs) fun as => gen cx o en ih ⟨fun fr l h k => (argsB as).f fr l fun xs => frc (Nat.add (Nat.mul 32 f) 9) fun m => k ⟨m, xs, oZ⟩ h⟩) frN
def cLook (two : Bool) (z : Value) (m y : Operand) : Pl := fun cx o en ih => cnd (oneB z) (sealX (encV z) frN fun z => p2 (cnd two (xLook2 z) (xLook z)) m y cx o en ih) frN
def cMkslice (sz by_ : Nat) (zs : List Value) (x y : Operand) : Pl := fun cx o en ih => cnd (zs.all oneB) (p2 (xMkslice sz by_ (zsOf zs)) x y cx o en ih) frN
def cAppz (sz by_ : Nat) (zs : List Value) (x y : Operand) : Pl := fun cx o en ih => cnd (zs.all oneB) (p2 (xAppz sz by_ (zsOf zs)) x y cx o en ih) frN
def cClr (sz : Nat) (zs : List Value) (x : Operand) : Pl := fun cx o en ih => cnd (zs.all oneB) (p1 (xClr sz (zsOf zs)) x cx o en ih) frN
def cSlice (sz : Nat) (x : Operand) (lo hi mx : Option Operand) : Pl := fun cx o en ih => oR (acOf cx en x) fun a =>
  oR (@Option.rec Operand (fun _ => Option Ac) (some (accC (mk0 0))) (fun y => acOf cx en y) lo) fun b =>
  @Option.rec Operand (fun _ => FR) (oR (@Option.rec Operand (fun _ => Option Ac) (some (lenA a)) (fun y => acOf cx en y) hi) fun c => gen cx o en ih ⟨fun fr l h k => xSlice sz (a.g fr l) (b.g fr l) (c.g fr l) h k⟩)
    (fun mx => oR hi fun hi => oR (acOf cx en hi) fun c => oR (acOf cx en mx) fun d => gen cx o en ih ⟨fun fr l h k => xSlice3 sz (a.g fr l) (b.g fr l) (c.g fr l) (d.g fr l) h k⟩) mx
def cMinmax (mx : Bool) (xs : List Operand) : Pl := match xs with
  | [x, y] => p2 (xMinmax mx) x y
  | _ => fun _ _ _ _ => frN
def callD (cl : Nat → FC) (a : Ac) (as : ArgB) : FO := ⟨fun fr l h k => opn (a.g fr l) fun n caps _ => cndR (Nat.beq (Nat.land n 31) 9) (frc (Nat.shiftRight n 5) fun f =>
  cndR (Nat.ble 1000000 f) (cndR (Nat.ble 2000000 f) none (frc (Nat.sub f 1000000) fun g => as.f fr l fun xs => appL caps xs fun ys => (cl g).f ys h k)) (as.f fr l fun xs => appL xs caps fun ys => (cl f).f ys h k)) none⟩
def cCall (f : Operand) (args : List Operand) : Pl := fun cx o en ih => oR (acsOf cx en args) fun as => match f with
  | .func g => gen cx o en ih ⟨fun fr l h k => (argsB as).f fr l fun xs => (cx.cl g).f xs h k⟩
  | f => oR (acOf cx en f) fun a => gen cx o en ih (callD cx.cl a (argsB as))
def cBad : Pl := fun _ _ _ _ => frN
def cUn (op : UnOp) (x : Operand) : Pl := match op with
  | .not => p1 xNot x
  | .neg => p1 xNeg x
  | _ => cBad
def cConv (q : IntKind) (x : Operand) : Pl := match q with
  | .i64 => p1 xConv64 x
  | q => p1 (xConv q) x
def plan (op : SOp) : Pl := @SOp.casesOn (fun _ => Pl) op cMov (fun c a b => p3 xPick c a b) cAlloc cBox cBuild (fun _ sz zs len ps => cBslice sz zs len ps) cLoad cStore cNilc (fun op x y => p2 (binB op).f x y)
  (fun neg ks x y => p2 (xEqs neg ks) x y) (fun neg x y => p2 (xEqb neg) x y) (fun neg x => p1 (xIsnil neg) x) cUn cConv (fun _ _ => cBad) (fun x => p1 xB2s x) (fun f cs => cFn f (Nat.blt f 1000000) cs) (fun f cs => cFn (Nat.add f 1000000) (Nat.blt f 1000000) cs)
  (fun cx o en ih => gen cx o en ih ⟨fun _ _ h k => xMkmap h k⟩) (cLook false) (cLook true) (fun m x y => p3 xMput m x y) (fun _ sz by_ zs x y => cMkslice sz by_ zs x y) cSlice (fun _ _ _ => cBad) (fun n sz x => p1 (xSarr n sz) x) cFaddr (fun ag off sz x => p1 (xFld ag off sz) x) (fun sz x i => p2 (xIaddr sz) x i)
  (fun len sz x i => p2 (xIaddrA len sz) x i) (fun ag len sz x i => p2 (xIdx ag len sz) x i) (fun x i => p2 xIdxs x i) (fun x => p1 xLen x) (fun x => p1 xSlen x) (fun x => p1 xCap x) (fun _ sz by_ _ x y => p2 (xApp sz by_) x y) (fun _ sz by_ zs x y => cAppz sz by_ zs x y)
  cClr (fun sz x y => p2 (xCopy sz) x y) cBad (fun i x => p1 (xExt i) x) cMinmax cCall
structure PutF where
  f : T3 → X → (T3 → R) → R
def pS0 : PutF := ⟨fun fr x k => @N4.rec T2 (fun _ => R) (fun a b c d => @N4.rec T1 (fun _ => R) (fun e f g i => @N4.rec X (fun _ => R) (fun p q r s => k ⟨⟨⟨x, q, r, s⟩, f, g, i⟩, b, c, d⟩) e) a) fr⟩
def pS1 : PutF := ⟨fun fr x k => @N4.rec T2 (fun _ => R) (fun a b c d => @N4.rec T1 (fun _ => R) (fun e f g i => @N4.rec X (fun _ => R) (fun p q r s => k ⟨⟨⟨p, x, r, s⟩, f, g, i⟩, b, c, d⟩) e) a) fr⟩
def pS2 : PutF := ⟨fun fr x k => @N4.rec T2 (fun _ => R) (fun a b c d => @N4.rec T1 (fun _ => R) (fun e f g i => @N4.rec X (fun _ => R) (fun p q r s => k ⟨⟨⟨p, q, x, s⟩, f, g, i⟩, b, c, d⟩) e) a) fr⟩
def pS3 : PutF := ⟨fun fr x k => @N4.rec T2 (fun _ => R) (fun a b c d => @N4.rec T1 (fun _ => R) (fun e f g i => @N4.rec X (fun _ => R) (fun p q r s => k ⟨⟨⟨p, q, r, x⟩, f, g, i⟩, b, c, d⟩) e) a) fr⟩
def pS4 : PutF := ⟨fun fr x k => @N4.rec T2 (fun _ => R) (fun a b c d => @N4.rec T1 (fun _ => R) (fun e f g i => @N4.rec X (fun _ => R) (fun p q r s => k ⟨⟨e, ⟨x, q, r, s⟩, g, i⟩, b, c, d⟩) f) a) fr⟩
def pS5 : PutF := ⟨fun fr x k => @N4.rec T2 (fun _ => R) (fun a b c d => @N4.rec T1 (fun _ => R) (fun e f g i => @N4.rec X (fun _ => R) (fun p q r s => k ⟨⟨e, ⟨p, x, r, s⟩, g, i⟩, b, c, d⟩) f) a) fr⟩
def pS6 : PutF := ⟨fun fr x k => @N4.rec T2 (fun _ => R) (fun a b c d => @N4.rec T1 (fun _ => R) (fun e f g i => @N4.rec X (fun _ => R) (fun p q r s => k ⟨⟨e, ⟨p, q, x, s⟩, g, i⟩, b, c, d⟩) f) a) fr⟩
def pS7 : PutF := ⟨fun fr x k => @N4.rec T2 (fun _ => R) (fun a b c d => @N4.rec T1 (fun _ => R) (fun e f g i => @N4.rec X (fun _ => R) (fun p q r s => k ⟨⟨e, ⟨p, q, r, x⟩, g, i⟩, b, c, d⟩) f) a) fr⟩
def pS8 : PutF := ⟨fun fr x k => @N4.rec T2 (fun _ => R) (fun a b c d => @N4.rec T1 (fun _ => R) (fun e f g i => @N4.rec X (fun _ => R) (fun p q r s => k ⟨⟨e, f, ⟨x, q, r, s⟩, i⟩, b, c, d⟩) g) a) fr⟩
def pS9 : PutF := ⟨fun fr x k => @N4.rec T2 (fun _ => R) (fun a b c d => @N4.rec T1 (fun _ => R) (fun e f g i => @N4.rec X (fun _ => R) (fun p q r s => k ⟨⟨e, f, ⟨p, x, r, s⟩, i⟩, b, c, d⟩) g) a) fr⟩
def pS10 : PutF := ⟨fun fr x k => @N4.rec T2 (fun _ => R) (fun a b c d => @N4.rec T1 (fun _ => R) (fun e f g i => @N4.rec X (fun _ => R) (fun p q r s => k ⟨⟨e, f, ⟨p, q, x, s⟩, i⟩, b, c, d⟩) g) a) fr⟩
def pS11 : PutF := ⟨fun fr x k => @N4.rec T2 (fun _ => R) (fun a b c d => @N4.rec T1 (fun _ => R) (fun e f g i => @N4.rec X (fun _ => R) (fun p q r s => k ⟨⟨e, f, ⟨p, q, r, x⟩, i⟩, b, c, d⟩) g) a) fr⟩
def pS12 : PutF := ⟨fun fr x k => @N4.rec T2 (fun _ => R) (fun a b c d => @N4.rec T1 (fun _ => R) (fun e f g i => @N4.rec X (fun _ => R) (fun p q r s => k ⟨⟨e, f, g, ⟨x, q, r, s⟩⟩, b, c, d⟩) i) a) fr⟩
def pS13 : PutF := ⟨fun fr x k => @N4.rec T2 (fun _ => R) (fun a b c d => @N4.rec T1 (fun _ => R) (fun e f g i => @N4.rec X (fun _ => R) (fun p q r s => k ⟨⟨e, f, g, ⟨p, x, r, s⟩⟩, b, c, d⟩) i) a) fr⟩
def pS14 : PutF := ⟨fun fr x k => @N4.rec T2 (fun _ => R) (fun a b c d => @N4.rec T1 (fun _ => R) (fun e f g i => @N4.rec X (fun _ => R) (fun p q r s => k ⟨⟨e, f, g, ⟨p, q, x, s⟩⟩, b, c, d⟩) i) a) fr⟩
def pS15 : PutF := ⟨fun fr x k => @N4.rec T2 (fun _ => R) (fun a b c d => @N4.rec T1 (fun _ => R) (fun e f g i => @N4.rec X (fun _ => R) (fun p q r s => k ⟨⟨e, f, g, ⟨p, q, r, x⟩⟩, b, c, d⟩) i) a) fr⟩
def pS16 : PutF := ⟨fun fr x k => @N4.rec T2 (fun _ => R) (fun a b c d => @N4.rec T1 (fun _ => R) (fun e f g i => @N4.rec X (fun _ => R) (fun p q r s => k ⟨a, ⟨⟨x, q, r, s⟩, f, g, i⟩, c, d⟩) e) b) fr⟩
def pS17 : PutF := ⟨fun fr x k => @N4.rec T2 (fun _ => R) (fun a b c d => @N4.rec T1 (fun _ => R) (fun e f g i => @N4.rec X (fun _ => R) (fun p q r s => k ⟨a, ⟨⟨p, x, r, s⟩, f, g, i⟩, c, d⟩) e) b) fr⟩
def pS18 : PutF := ⟨fun fr x k => @N4.rec T2 (fun _ => R) (fun a b c d => @N4.rec T1 (fun _ => R) (fun e f g i => @N4.rec X (fun _ => R) (fun p q r s => k ⟨a, ⟨⟨p, q, x, s⟩, f, g, i⟩, c, d⟩) e) b) fr⟩
def pS19 : PutF := ⟨fun fr x k => @N4.rec T2 (fun _ => R) (fun a b c d => @N4.rec T1 (fun _ => R) (fun e f g i => @N4.rec X (fun _ => R) (fun p q r s => k ⟨a, ⟨⟨p, q, r, x⟩, f, g, i⟩, c, d⟩) e) b) fr⟩
def pS20 : PutF := ⟨fun fr x k => @N4.rec T2 (fun _ => R) (fun a b c d => @N4.rec T1 (fun _ => R) (fun e f g i => @N4.rec X (fun _ => R) (fun p q r s => k ⟨a, ⟨e, ⟨x, q, r, s⟩, g, i⟩, c, d⟩) f) b) fr⟩
def pS21 : PutF := ⟨fun fr x k => @N4.rec T2 (fun _ => R) (fun a b c d => @N4.rec T1 (fun _ => R) (fun e f g i => @N4.rec X (fun _ => R) (fun p q r s => k ⟨a, ⟨e, ⟨p, x, r, s⟩, g, i⟩, c, d⟩) f) b) fr⟩
def pS22 : PutF := ⟨fun fr x k => @N4.rec T2 (fun _ => R) (fun a b c d => @N4.rec T1 (fun _ => R) (fun e f g i => @N4.rec X (fun _ => R) (fun p q r s => k ⟨a, ⟨e, ⟨p, q, x, s⟩, g, i⟩, c, d⟩) f) b) fr⟩
def pS23 : PutF := ⟨fun fr x k => @N4.rec T2 (fun _ => R) (fun a b c d => @N4.rec T1 (fun _ => R) (fun e f g i => @N4.rec X (fun _ => R) (fun p q r s => k ⟨a, ⟨e, ⟨p, q, r, x⟩, g, i⟩, c, d⟩) f) b) fr⟩
def pS24 : PutF := ⟨fun fr x k => @N4.rec T2 (fun _ => R) (fun a b c d => @N4.rec T1 (fun _ => R) (fun e f g i => @N4.rec X (fun _ => R) (fun p q r s => k ⟨a, ⟨e, f, ⟨x, q, r, s⟩, i⟩, c, d⟩) g) b) fr⟩
def pS25 : PutF := ⟨fun fr x k => @N4.rec T2 (fun _ => R) (fun a b c d => @N4.rec T1 (fun _ => R) (fun e f g i => @N4.rec X (fun _ => R) (fun p q r s => k ⟨a, ⟨e, f, ⟨p, x, r, s⟩, i⟩, c, d⟩) g) b) fr⟩
def pS26 : PutF := ⟨fun fr x k => @N4.rec T2 (fun _ => R) (fun a b c d => @N4.rec T1 (fun _ => R) (fun e f g i => @N4.rec X (fun _ => R) (fun p q r s => k ⟨a, ⟨e, f, ⟨p, q, x, s⟩, i⟩, c, d⟩) g) b) fr⟩
def pS27 : PutF := ⟨fun fr x k => @N4.rec T2 (fun _ => R) (fun a b c d => @N4.rec T1 (fun _ => R) (fun e f g i => @N4.rec X (fun _ => R) (fun p q r s => k ⟨a, ⟨e, f, ⟨p, q, r, x⟩, i⟩, c, d⟩) g) b) fr⟩
def pS28 : PutF := ⟨fun fr x k => @N4.rec T2 (fun _ => R) (fun a b c d => @N4.rec T1 (fun _ => R) (fun e f g i => @N4.rec X (fun _ => R) (fun p q r s => k ⟨a, ⟨e, f, g, ⟨x, q, r, s⟩⟩, c, d⟩) i) b) fr⟩
def pS29 : PutF := ⟨fun fr x k => @N4.rec T2 (fun _ => R) (fun a b c d => @N4.rec T1 (fun _ => R) (fun e f g i => @N4.rec X (fun _ => R) (fun p q r s => k ⟨a, ⟨e, f, g, ⟨p, x, r, s⟩⟩, c, d⟩) i) b) fr⟩
def pS30 : PutF := ⟨fun fr x k => @N4.rec T2 (fun _ => R) (fun a b c d => @N4.rec T1 (fun _ => R) (fun e f g i => @N4.rec X (fun _ => R) (fun p q r s => k ⟨a, ⟨e, f, g, ⟨p, q, x, s⟩⟩, c, d⟩) i) b) fr⟩
def pS31 : PutF := ⟨fun fr x k => @N4.rec T2 (fun _ => R) (fun a b c d => @N4.rec T1 (fun _ => R) (fun e f g i => @N4.rec X (fun _ => R) (fun p q r s => k ⟨a, ⟨e, f, g, ⟨p, q, r, x⟩⟩, c, d⟩) i) b) fr⟩
def pS32 : PutF := ⟨fun fr x k => @N4.rec T2 (fun _ => R) (fun a b c d => @N4.rec T1 (fun _ => R) (fun e f g i => @N4.rec X (fun _ => R) (fun p q r s => k ⟨a, b, ⟨⟨x, q, r, s⟩, f, g, i⟩, d⟩) e) c) fr⟩
def pS33 : PutF := ⟨fun fr x k => @N4.rec T2 (fun _ => R) (fun a b c d => @N4.rec T1 (fun _ => R) (fun e f g i => @N4.rec X (fun _ => R) (fun p q r s => k ⟨a, b, ⟨⟨p, x, r, s⟩, f, g, i⟩, d⟩) e) c) fr⟩
def pS34 : PutF := ⟨fun fr x k => @N4.rec T2 (fun _ => R) (fun a b c d => @N4.rec T1 (fun _ => R) (fun e f g i => @N4.rec X (fun _ => R) (fun p q r s => k ⟨a, b, ⟨⟨p, q, x, s⟩, f, g, i⟩, d⟩) e) c) fr⟩
def pS35 : PutF := ⟨fun fr x k => @N4.rec T2 (fun _ => R) (fun a b c d => @N4.rec T1 (fun _ => R) (fun e f g i => @N4.rec X (fun _ => R) (fun p q r s => k ⟨a, b, ⟨⟨p, q, r, x⟩, f, g, i⟩, d⟩) e) c) fr⟩
def pS36 : PutF := ⟨fun fr x k => @N4.rec T2 (fun _ => R) (fun a b c d => @N4.rec T1 (fun _ => R) (fun e f g i => @N4.rec X (fun _ => R) (fun p q r s => k ⟨a, b, ⟨e, ⟨x, q, r, s⟩, g, i⟩, d⟩) f) c) fr⟩
def pS37 : PutF := ⟨fun fr x k => @N4.rec T2 (fun _ => R) (fun a b c d => @N4.rec T1 (fun _ => R) (fun e f g i => @N4.rec X (fun _ => R) (fun p q r s => k ⟨a, b, ⟨e, ⟨p, x, r, s⟩, g, i⟩, d⟩) f) c) fr⟩
def pS38 : PutF := ⟨fun fr x k => @N4.rec T2 (fun _ => R) (fun a b c d => @N4.rec T1 (fun _ => R) (fun e f g i => @N4.rec X (fun _ => R) (fun p q r s => k ⟨a, b, ⟨e, ⟨p, q, x, s⟩, g, i⟩, d⟩) f) c) fr⟩
def pS39 : PutF := ⟨fun fr x k => @N4.rec T2 (fun _ => R) (fun a b c d => @N4.rec T1 (fun _ => R) (fun e f g i => @N4.rec X (fun _ => R) (fun p q r s => k ⟨a, b, ⟨e, ⟨p, q, r, x⟩, g, i⟩, d⟩) f) c) fr⟩
def pS40 : PutF := ⟨fun fr x k => @N4.rec T2 (fun _ => R) (fun a b c d => @N4.rec T1 (fun _ => R) (fun e f g i => @N4.rec X (fun _ => R) (fun p q r s => k ⟨a, b, ⟨e, f, ⟨x, q, r, s⟩, i⟩, d⟩) g) c) fr⟩
def pS41 : PutF := ⟨fun fr x k => @N4.rec T2 (fun _ => R) (fun a b c d => @N4.rec T1 (fun _ => R) (fun e f g i => @N4.rec X (fun _ => R) (fun p q r s => k ⟨a, b, ⟨e, f, ⟨p, x, r, s⟩, i⟩, d⟩) g) c) fr⟩
def pS42 : PutF := ⟨fun fr x k => @N4.rec T2 (fun _ => R) (fun a b c d => @N4.rec T1 (fun _ => R) (fun e f g i => @N4.rec X (fun _ => R) (fun p q r s => k ⟨a, b, ⟨e, f, ⟨p, q, x, s⟩, i⟩, d⟩) g) c) fr⟩
def pS43 : PutF := ⟨fun fr x k => @N4.rec T2 (fun _ => R) (fun a b c d => @N4.rec T1 (fun _ => R) (fun e f g i => @N4.rec X (fun _ => R) (fun p q r s => k ⟨a, b, ⟨e, f, ⟨p, q, r, x⟩, i⟩, d⟩) g) c) fr⟩
def pS44 : PutF := ⟨fun fr x k => @N4.rec T2 (fun _ => R) (fun a b c d => @N4.rec T1 (fun _ => R) (fun e f g i => @N4.rec X (fun _ => R) (fun p q r s => k ⟨a, b, ⟨e, f, g, ⟨x, q, r, s⟩⟩, d⟩) i) c) fr⟩
def pS45 : PutF := ⟨fun fr x k => @N4.rec T2 (fun _ => R) (fun a b c d => @N4.rec T1 (fun _ => R) (fun e f g i => @N4.rec X (fun _ => R) (fun p q r s => k ⟨a, b, ⟨e, f, g, ⟨p, x, r, s⟩⟩, d⟩) i) c) fr⟩
def pS46 : PutF := ⟨fun fr x k => @N4.rec T2 (fun _ => R) (fun a b c d => @N4.rec T1 (fun _ => R) (fun e f g i => @N4.rec X (fun _ => R) (fun p q r s => k ⟨a, b, ⟨e, f, g, ⟨p, q, x, s⟩⟩, d⟩) i) c) fr⟩
def pS47 : PutF := ⟨fun fr x k => @N4.rec T2 (fun _ => R) (fun a b c d => @N4.rec T1 (fun _ => R) (fun e f g i => @N4.rec X (fun _ => R) (fun p q r s => k ⟨a, b, ⟨e, f, g, ⟨p, q, r, x⟩⟩, d⟩) i) c) fr⟩
def pS48 : PutF := ⟨fun fr x k => @N4.rec T2 (fun _ => R) (fun a b c d => @N4.rec T1 (fun _ => R) (fun e f g i => @N4.rec X (fun _ => R) (fun p q r s => k ⟨a, b, c, ⟨⟨x, q, r, s⟩, f, g, i⟩⟩) e) d) fr⟩
def pS49 : PutF := ⟨fun fr x k => @N4.rec T2 (fun _ => R) (fun a b c d => @N4.rec T1 (fun _ => R) (fun e f g i => @N4.rec X (fun _ => R) (fun p q r s => k ⟨a, b, c, ⟨⟨p, x, r, s⟩, f, g, i⟩⟩) e) d) fr⟩
def pS50 : PutF := ⟨fun fr x k => @N4.rec T2 (fun _ => R) (fun a b c d => @N4.rec T1 (fun _ => R) (fun e f g i => @N4.rec X (fun _ => R) (fun p q r s => k ⟨a, b, c, ⟨⟨p, q, x, s⟩, f, g, i⟩⟩) e) d) fr⟩
def pS51 : PutF := ⟨fun fr x k => @N4.rec T2 (fun _ => R) (fun a b c d => @N4.rec T1 (fun _ => R) (fun e f g i => @N4.rec X (fun _ => R) (fun p q r s => k ⟨a, b, c, ⟨⟨p, q, r, x⟩, f, g, i⟩⟩) e) d) fr⟩
def pS52 : PutF := ⟨fun fr x k => @N4.rec T2 (fun _ => R) (fun a b c d => @N4.rec T1 (fun _ => R) (fun e f g i => @N4.rec X (fun _ => R) (fun p q r s => k ⟨a, b, c, ⟨e, ⟨x, q, r, s⟩, g, i⟩⟩) f) d) fr⟩
def pS53 : PutF := ⟨fun fr x k => @N4.rec T2 (fun _ => R) (fun a b c d => @N4.rec T1 (fun _ => R) (fun e f g i => @N4.rec X (fun _ => R) (fun p q r s => k ⟨a, b, c, ⟨e, ⟨p, x, r, s⟩, g, i⟩⟩) f) d) fr⟩
def pS54 : PutF := ⟨fun fr x k => @N4.rec T2 (fun _ => R) (fun a b c d => @N4.rec T1 (fun _ => R) (fun e f g i => @N4.rec X (fun _ => R) (fun p q r s => k ⟨a, b, c, ⟨e, ⟨p, q, x, s⟩, g, i⟩⟩) f) d) fr⟩
def pS55 : PutF := ⟨fun fr x k => @N4.rec T2 (fun _ => R) (fun a b c d => @N4.rec T1 (fun _ => R) (fun e f g i => @N4.rec X (fun _ => R) (fun p q r s => k ⟨a, b, c, ⟨e, ⟨p, q, r, x⟩, g, i⟩⟩) f) d) fr⟩
def pS56 : PutF := ⟨fun fr x k => @N4.rec T2 (fun _ => R) (fun a b c d => @N4.rec T1 (fun _ => R) (fun e f g i => @N4.rec X (fun _ => R) (fun p q r s => k ⟨a, b, c, ⟨e, f, ⟨x, q, r, s⟩, i⟩⟩) g) d) fr⟩
def pS57 : PutF := ⟨fun fr x k => @N4.rec T2 (fun _ => R) (fun a b c d => @N4.rec T1 (fun _ => R) (fun e f g i => @N4.rec X (fun _ => R) (fun p q r s => k ⟨a, b, c, ⟨e, f, ⟨p, x, r, s⟩, i⟩⟩) g) d) fr⟩
def pS58 : PutF := ⟨fun fr x k => @N4.rec T2 (fun _ => R) (fun a b c d => @N4.rec T1 (fun _ => R) (fun e f g i => @N4.rec X (fun _ => R) (fun p q r s => k ⟨a, b, c, ⟨e, f, ⟨p, q, x, s⟩, i⟩⟩) g) d) fr⟩
def pS59 : PutF := ⟨fun fr x k => @N4.rec T2 (fun _ => R) (fun a b c d => @N4.rec T1 (fun _ => R) (fun e f g i => @N4.rec X (fun _ => R) (fun p q r s => k ⟨a, b, c, ⟨e, f, ⟨p, q, r, x⟩, i⟩⟩) g) d) fr⟩
def pS60 : PutF := ⟨fun fr x k => @N4.rec T2 (fun _ => R) (fun a b c d => @N4.rec T1 (fun _ => R) (fun e f g i => @N4.rec X (fun _ => R) (fun p q r s => k ⟨a, b, c, ⟨e, f, g, ⟨x, q, r, s⟩⟩⟩) i) d) fr⟩
def pS61 : PutF := ⟨fun fr x k => @N4.rec T2 (fun _ => R) (fun a b c d => @N4.rec T1 (fun _ => R) (fun e f g i => @N4.rec X (fun _ => R) (fun p q r s => k ⟨a, b, c, ⟨e, f, g, ⟨p, x, r, s⟩⟩⟩) i) d) fr⟩
def pS62 : PutF := ⟨fun fr x k => @N4.rec T2 (fun _ => R) (fun a b c d => @N4.rec T1 (fun _ => R) (fun e f g i => @N4.rec X (fun _ => R) (fun p q r s => k ⟨a, b, c, ⟨e, f, g, ⟨p, q, x, s⟩⟩⟩) i) d) fr⟩
def pS63 : PutF := ⟨fun fr x k => @N4.rec T2 (fun _ => R) (fun a b c d => @N4.rec T1 (fun _ => R) (fun e f g i => @N4.rec X (fun _ => R) (fun p q r s => k ⟨a, b, c, ⟨e, f, g, ⟨p, q, r, x⟩⟩⟩) i) d) fr⟩
def putS (j : Nat) : PutF := (cnd (Nat.blt j 32) (cnd (Nat.blt j 16) (cnd (Nat.blt j 8) (cnd (Nat.blt j 4) (cnd (Nat.blt j 2) (cnd (Nat.blt j 1) pS0 pS1) (cnd (Nat.blt j 3) pS2 pS3)) (cnd (Nat.blt j 6) (cnd (Nat.blt j 5) pS4 pS5) (cnd (Nat.blt j 7) pS6 pS7))) (cnd (Nat.blt j 12) (cnd (Nat.blt j 10) (cnd (Nat.blt j 9) pS8 pS9) (cnd (Nat.blt j 11) pS10 pS11)) (cnd (Nat.blt j 14) (cnd (Nat.blt j 13) pS12 pS13) (cnd (Nat.blt j 15) pS14 pS15)))) (cnd (Nat.blt j 24) (cnd (Nat.blt j 20) (cnd (Nat.blt j 18) (cnd (Nat.blt j 17) pS16 pS17) (cnd (Nat.blt j 19) pS18 pS19)) (cnd (Nat.blt j 22) (cnd (Nat.blt j 21) pS20 pS21) (cnd (Nat.blt j 23) pS22 pS23))) (cnd (Nat.blt j 28) (cnd (Nat.blt j 26) (cnd (Nat.blt j 25) pS24 pS25) (cnd (Nat.blt j 27) pS26 pS27)) (cnd (Nat.blt j 30) (cnd (Nat.blt j 29) pS28 pS29) (cnd (Nat.blt j 31) pS30 pS31))))) (cnd (Nat.blt j 48) (cnd (Nat.blt j 40) (cnd (Nat.blt j 36) (cnd (Nat.blt j 34) (cnd (Nat.blt j 33) pS32 pS33) (cnd (Nat.blt j 35) pS34 pS35)) (cnd (Nat.blt j 38) (cnd (Nat.blt j 37) pS36 pS37) (cnd (Nat.blt j 39) pS38 pS39))) (cnd (Nat.blt j 44) (cnd (Nat.blt j 42) (cnd (Nat.blt j 41) pS40 pS41) (cnd (Nat.blt j 43) pS42 pS43)) (cnd (Nat.blt j 46) (cnd (Nat.blt j 45) pS44 pS45) (cnd (Nat.blt j 47) pS46 pS47)))) (cnd (Nat.blt j 56) (cnd (Nat.blt j 52) (cnd (Nat.blt j 50) (cnd (Nat.blt j 49) pS48 pS49) (cnd (Nat.blt j 51) pS50 pS51)) (cnd (Nat.blt j 54) (cnd (Nat.blt j 53) pS52 pS53) (cnd (Nat.blt j 55) pS54 pS55))) (cnd (Nat.blt j 60) (cnd (Nat.blt j 58) (cnd (Nat.blt j 57) pS56 pS57) (cnd (Nat.blt j 59) pS58 pS59)) (cnd (Nat.blt j 62) (cnd (Nat.blt j 61) pS60 pS61) (cnd (Nat.blt j 63) pS62 pS63))))))
theorem putS_eq {j : Nat} (h : j < 64) (fr : T3) (x : X) (k : T3 → R) : (putS j).f fr x k = k (tr3.pt fr j x) := by
  obtain ⟨⟨⟨_, _, _, _⟩, ⟨_, _, _, _⟩, ⟨_, _, _, _⟩, ⟨_, _, _, _⟩⟩, ⟨⟨_, _, _, _⟩, ⟨_, _, _, _⟩, ⟨_, _, _, _⟩, ⟨_, _, _, _⟩⟩, ⟨⟨_, _, _, _⟩, ⟨_, _, _, _⟩, ⟨_, _, _, _⟩, ⟨_, _, _, _⟩⟩, ⟨⟨_, _, _, _⟩, ⟨_, _, _, _⟩, ⟨_, _, _, _⟩, ⟨_, _, _, _⟩⟩⟩ := fr
  match j, h with
  | 0, _ => rfl
  | 1, _ => rfl
  | 2, _ => rfl
  | 3, _ => rfl
  | 4, _ => rfl
  | 5, _ => rfl
  | 6, _ => rfl
  | 7, _ => rfl
  | 8, _ => rfl
  | 9, _ => rfl
  | 10, _ => rfl
  | 11, _ => rfl
  | 12, _ => rfl
  | 13, _ => rfl
  | 14, _ => rfl
  | 15, _ => rfl
  | 16, _ => rfl
  | 17, _ => rfl
  | 18, _ => rfl
  | 19, _ => rfl
  | 20, _ => rfl
  | 21, _ => rfl
  | 22, _ => rfl
  | 23, _ => rfl
  | 24, _ => rfl
  | 25, _ => rfl
  | 26, _ => rfl
  | 27, _ => rfl
  | 28, _ => rfl
  | 29, _ => rfl
  | 30, _ => rfl
  | 31, _ => rfl
  | 32, _ => rfl
  | 33, _ => rfl
  | 34, _ => rfl
  | 35, _ => rfl
  | 36, _ => rfl
  | 37, _ => rfl
  | 38, _ => rfl
  | 39, _ => rfl
  | 40, _ => rfl
  | 41, _ => rfl
  | 42, _ => rfl
  | 43, _ => rfl
  | 44, _ => rfl
  | 45, _ => rfl
  | 46, _ => rfl
  | 47, _ => rfl
  | 48, _ => rfl
  | 49, _ => rfl
  | 50, _ => rfl
  | 51, _ => rfl
  | 52, _ => rfl
  | 53, _ => rfl
  | 54, _ => rfl
  | 55, _ => rfl
  | 56, _ => rfl
  | 57, _ => rfl
  | 58, _ => rfl
  | 59, _ => rfl
  | 60, _ => rfl
  | 61, _ => rfl
  | 62, _ => rfl
  | 63, _ => rfl
  | n + 64, h => exact absurd h (by omega)
structure WrB where
  f : FX → Loc → FX → (FX → R) → R
def wrB (n : Nat) (ws : List (Nat × D)) : WrB := @List.rec (Nat × D) (fun _ => WrB) ⟨fun _ _ fr k => k fr⟩ (fun w _ ih => ⟨fun fr l fr' k => (putS w.1).f fr' ((acD n w.2).g fr l) fun fr' => ih.f fr l fr' k⟩) ws
def isSlot (d : D) (j : Nat) : Bool := match d with
  | .slot i => Nat.beq i j
  | _ => false
def wrs (cx : Cx) (en : En) : List (Nat × D) := (@List.rec Nat (fun _ => Nat → List (Nat × D)) (fun _ => []) (fun k _ ih j => oD (cnd (mem cx.PV k) (lk en.C k) (lk en.T k)) (ih (Nat.succ j)) fun d => cnd (isSlot d j) (ih (Nat.succ j)) ((j, d) :: ih (Nat.succ j))) cx.G 0)
def endR (cx : Cx) (e : Nat) (en : En) : FR := ⟨fun fr l h k => (wrB en.n (wrs cx en)).f fr l fr fun fr => k e fr h⟩
def exOps (cx : Cx) (kn : En → FR) (ops : List OL) : En → FR := @List.rec OL (fun _ => En → FR) kn (fun o _ ih en => plan o.op cx o en ih) ops
def en0 : En := ⟨[], [], [], 0⟩
def befGo (acc : List Nat) : List (List Nat) → List Nat
  | [] => acc
  | af :: l => befGo (acc ++ [af.foldl (fun s e => s ||| (2 ^ e ||| acc.getD e 0)) 0]) l
def tmpOf : Operand → List Nat
  | .tmp k => [k]
  | _ => []
def opndsOf : SOp → List Operand
  | .mov x => [x]
  | .pick c a b => [c, a, b]
  | .box x => [x]
  | .build _ ps => ps.map fun p => p.2.2
  | .bslice _ _ _ _ ps => ps.map fun p => p.2
  | .load _ _ x => [x]
  | .store _ x y => [x, y]
  | .nilc x => [x]
  | .bin _ x y => [x, y]
  | .eqs _ _ x y => [x, y]
  | .eqb _ x y => [x, y]
  | .isnil _ x => [x]
  | .un _ x => [x]
  | .conv _ x => [x]
  | .s2b _ x => [x]
  | .b2s x => [x]
  | .mkfn _ cs => cs
  | .mkmfn _ cs => cs
  | .look _ m k => [m, k]
  | .look2 _ m k => [m, k]
  | .mput m k x => [m, k, x]
  | .mkslice _ _ _ _ l c => [l, c]
  | .slice _ x lo hi mx => x :: (lo.toList ++ (hi.toList ++ mx.toList))
  | .sslice x lo hi => x :: (lo.toList ++ hi.toList)
  | .sarr _ _ x => [x]
  | .faddr _ x => [x]
  | .fld _ _ _ x => [x]
  | .iaddr _ x i => [x, i]
  | .iaddrA _ _ x i => [x, i]
  | .idx _ _ _ x i => [x, i]
  | .idxs x i => [x, i]
  | .len x => [x]
  | .slen x => [x]
  | .cap x => [x]
  | .app _ _ _ _ s x => [s, x]
  | .appz _ _ _ _ s x => [s, x]
  | .clr _ _ x => [x]
  | .copy _ x y => [x, y]
  | .ext _ x => [x]
  | .minmax _ xs => xs
  | .call f args => f :: args
  | _ => []
def varOf (al : List (Nat × Nat)) (PV : List Nat) (x : Operand) : Option Nat := match x with
  | .tmp k => match lk al k with
    | some p => some p
    | none => cnd (mem PV k) (some k) none
  | _ => none
def aliases (PV : List Nat) : List SOper → List (Nat × Nat) → List (Nat × Nat)
  | [], al => al
  | o :: l, al => match o.dst, o.op with
    | some d, .faddr _ x => match varOf al PV x with
      | some p => aliases PV l ((d, p) :: al)
      | none => aliases PV l al
    | some d, .nilc x => match varOf al PV x with
      | some p => aliases PV l ((d, p) :: al)
      | none => aliases PV l al
    | some d, .mov x => match varOf al PV x with
      | some p => aliases PV l ((d, p) :: al)
      | none => aliases PV l al
    | _, _ => aliases PV l al
def looks (o : SOper) : List Nat := (match o.guard with
  | some (g, _) => [g]
  | none => []) ++ (opndsOf o.op).flatMap tmpOf
def cls0 : SOp → Nat
  | .alloc _ => 2
  | .box _ => 2
  | .bslice _ _ _ _ _ => 2
  | .mkslice _ _ _ _ _ _ => 2
  | .mkmap => 2
  | .appz _ _ _ _ _ _ => 2
  | .load _ _ _ => 1
  | .look _ _ _ => 1
  | .look2 _ _ _ => 1
  | .b2s _ => 1
  | .slice _ _ _ _ _ => 1
  | .cap _ => 1
  | .sarr _ _ _ => 1
  | .store _ _ _ => 3
  | .clr _ _ _ => 3
  | .copy _ _ _ => 3
  | .mput _ _ _ => 3
  | .app _ _ _ _ _ _ => 4
  | .call _ _ => 4
  | _ => 0
structure Rs where
  c : Nat
  u : List Nat
  d : List Nat
def rsOf (al : List (Nat × Nat)) (PV : List Nat) (o : SOper) : Rs := match o.op with
  | .load _ _ x => match varOf al PV x with
    | some p => ⟨0, (1000000 + p) :: looks o, o.dst.toList⟩
    | none => ⟨1, looks o, o.dst.toList⟩
  | .store _ x _ => match varOf al PV x with
    | some p => ⟨0, (1000000 + p) :: looks o, (1000000 + p) :: o.dst.toList⟩
    | none => ⟨3, looks o, o.dst.toList⟩
  | .alloc _ => match o.dst with
    | some d => cnd (mem PV d) ⟨0, looks o, [d, 1000000 + d]⟩ ⟨2, looks o, [d]⟩
    | none => ⟨2, looks o, []⟩
  | .box _ => match o.dst with
    | some d => cnd (mem PV d) ⟨0, looks o, [d, 1000000 + d]⟩ ⟨2, looks o, [d]⟩
    | none => ⟨2, looks o, []⟩
  | op => ⟨cls0 op, looks o, o.dst.toList⟩
def apartD (x y : Rs) : Bool := x.d.all (fun d => !(y.u.contains d) && !(y.d.contains d)) && y.d.all (fun d => !(x.u.contains d))
def apartC (x y : Rs) : Bool := Nat.beq x.c 0 || (Nat.beq y.c 0 || (Nat.blt x.c 3 && Nat.blt y.c 3 || (Nat.beq x.c 4 && Nat.blt y.c 3 || Nat.beq y.c 4 && Nat.blt x.c 3)))
def isMk (op : SOp) : Bool := match op with
  | .bslice _ _ _ _ _ => true
  | _ => false
def okReg (rs : List Rs) (bef : List Nat) (ops : List SOper) : Bool :=
  (ops.zip rs).zipIdx.all fun p => p.1.1.after.all (fun e => Nat.blt e p.2) && rs.zipIdx.all fun q => !(Nat.blt q.2 p.2) || ((bef.getD p.2 0).testBit q.2 || (apartD q.1 p.1.2 && (apartC q.1 p.1.2 || isMk p.1.1.op)))
def vpOf (al : List (Nat × Nat)) (PV : List Nat) (op : SOp) : Option Nat := match op with
  | .load _ _ x => varOf al PV x
  | .store _ x _ => varOf al PV x
  | .mov x => varOf al PV x
  | .faddr _ x => varOf al PV x
  | .nilc x => varOf al PV x
  | _ => none
def inFL (FL : List Nat) (o : SOper) : Bool := @Option.rec Nat (fun _ => Bool) false (fun d => mem FL d) o.dst
def plainL (FL : List Nat) (ops : List SOper) : List OL := ops.map fun o => ⟨o.dst, o.op, o.guard, inFL FL o, none⟩
def drawL (al : List (Nat × Nat)) (PV FL : List Nat) (ops : List SOper) : List OL := ops.map fun o => ⟨o.dst, o.op, o.guard, inFL FL o, some (vpOf al PV o.op)⟩
def floOk (rs : List Rs) (bef : List Nat) (FL : List Nat) (ops : List SOper) : Bool :=
  (ops.zip rs).zipIdx.all fun p => !(Nat.beq p.1.2.c 4) || inFL FL p.1.1 || (ops.zip rs).zipIdx.all fun q => Nat.beq q.1.2.c 0 || Nat.beq p.2 q.2 || (bef.getD (max p.2 q.2) 0).testBit (min p.2 q.2) || (isMk q.1.1.op && Nat.blt p.2 q.2)
def isNew (op : SOp) : Bool := match op with
  | .alloc _ => true
  | .box _ => true
  | _ => false
def isSto (op : SOp) : Bool := match op with
  | .store _ _ _ => true
  | _ => false
def okD (nt : Nat) (PV : List Nat) (draw : Bool) (o : SOper) : Bool := @Option.rec Nat (fun _ => Bool) true (fun d => Nat.blt d nt && ((!(mem PV d) || isNew o.op) && !(isSto o.op))) o.dst
def isV (o : Option Nat) (d : Nat) : Bool := match o with
  | some p => Nat.beq p d
  | none => false
def newOk (al : List (Nat × Nat)) (PV : List Nat) (bef : List Nat) (ops : List SOper) : Bool :=
  ops.zipIdx.all fun p => !(isNew p.1.op) || @Option.rec Nat (fun _ => Bool) true (fun d => !(mem PV d) || ops.zipIdx.all fun q => Nat.beq q.2 p.2 || (!(isV (vpOf al PV q.1.op) d) || (Nat.blt p.2 q.2 && (bef.getD q.2 0).testBit p.2))) p.1.dst
def okDraw (PV FL : List Nat) (ops : List SOper) : Bool :=
  let bef := befGo [] (ops.map (·.after))
  let rs := ops.map (rsOf (aliases PV ops []) PV)
  okReg rs bef ops && (floOk rs bef FL ops && newOk (aliases PV ops []) PV bef ops)
def okC (nt : Nat) (PV FL : List Nat) (c : SCode) : Bool := match c with
  | .region ops draw => (ops.all fun o => okD nt PV draw o) && (!draw || okDraw PV FL ops)
  | .seq a b => okC nt PV FL a && okC nt PV FL b
  | .cond _ a b => okC nt PV FL a && okC nt PV FL b
  | .block _ c => okC nt PV FL c
  | .loop c => okC nt PV FL c
  | _ => true
def fuelN : Nat := 100000
def noN (c : SCode) : Bool := @SCode.rec (fun _ => Bool) false (fun _ _ => false) (fun _ _ a b => cnd a true b) (fun _ _ _ a b => cnd a b false) (fun _ _ _ => false) (fun _ _ => false) (fun _ => true) true c
def loopB (c : FR) (n : Nat) : FR := @Nat.rec (fun _ => FR) frN (fun _ ih => ⟨fun fr _ h k => c.f fr [] h fun e fr h => cndR (Nat.beq e 0) (ih.f fr [] h k) (k e fr h)⟩) n
def joinF (a : Ac) (x y z : FR) : FR := ⟨fun fr l h k => frc (a.g fr l).n fun n => cndR (Nat.beq n 33) (x.f fr l h fun e fr h => cndR (Nat.beq e 0) (z.f fr [] h k) (k e fr h)) (cndR (Nat.beq n 1) (y.f fr l h fun e fr h => cndR (Nat.beq e 0) (z.f fr [] h k) (k e fr h)) none)⟩
def twoF (a : Ac) (x y : FR) : FR := ⟨fun fr l h k => frc (a.g fr l).n fun n => cndR (Nat.beq n 33) (x.f fr l h k) (cndR (Nat.beq n 1) (y.f fr l h k) none)⟩
abbrev Cm := En → (En → FR) → FR
def noA (en : En) : En := ⟨en.T, [], en.C, en.n⟩
def exC (cx : Cx) (c : SCode) : Cm := @SCode.rec (fun _ => Cm) (fun en kn => kn en) (fun ops draw en kn => cnd draw (exOps cx kn (drawL (aliases cx.PV ops []) cx.PV cx.FL ops) (noA en)) (exOps cx kn (plainL cx.FL ops) en)) (fun _ _ a b en kn => a en fun en => b en kn)
  (fun c x y a b en kn => oR (acOf cx en c) fun t => cnd (noN x) (twoF t (a en fun _ => frN) (b en kn)) (cnd (noN y) (twoF t (a en kn) (b en fun _ => frN)) (joinF t (a en (endR cx 0)) (b en (endR cx 0)) (kn en0))))
  (fun id _ a en kn => ⟨fun fr l h k => (a en (endR cx 0)).f fr l h fun e fr h => cndR (Nat.beq e 0) ((kn en0).f fr [] h k) (cndR (Nat.beq e (Nat.add id 2)) ((kn en0).f fr [] h k) (k e fr h))⟩)
  (fun _ a en _ => ⟨fun fr l h k => (endR cx 0 en).f fr l h fun _ fr h => (loopB (a en0 (endR cx 0)) cx.fu).f fr [] h k⟩)
  (fun id en _ => endR cx (Nat.add id 2) en) (fun en _ => endR cx 1 en) c
inductive SRes where
  | tmp (k : Nat)
  | cell (k : Nat) (ag : Bool) (sz : Nat)
structure IniB where
  f : List X → (List X → FX → R) → R
def f4 {α : Type} (x : α) : N4 α := ⟨x, x, x, x⟩
def fr0 : FX := f4 (f4 (f4 xU))
structure XsA where
  g : List X → X
def nthA (i : Nat) : XsA := @Nat.rec (fun _ => XsA) ⟨fun l => rcL l xBad fun x _ => x⟩ (fun _ ih => ⟨fun l => rcL l xBad fun _ t => ih.g t⟩) i
structure FrT where
  g : List X → FX
def g1 (n i : Nat) (xs : List X) : X := cnd (Nat.blt i n) ((nthA i).g xs) xU
def iniT (n : Nat) : FrT := cnd (Nat.ble n 4) ⟨fun xs => ⟨⟨⟨g1 n 0 xs, g1 n 1 xs, g1 n 2 xs, g1 n 3 xs⟩, f4 xU, f4 xU, f4 xU⟩, f4 (f4 xU), f4 (f4 xU), f4 (f4 xU)⟩⟩
  (cnd (Nat.ble n 8) ⟨fun xs => ⟨⟨⟨g1 n 0 xs, g1 n 1 xs, g1 n 2 xs, g1 n 3 xs⟩, ⟨g1 n 4 xs, g1 n 5 xs, g1 n 6 xs, g1 n 7 xs⟩, f4 xU, f4 xU⟩, f4 (f4 xU), f4 (f4 xU), f4 (f4 xU)⟩⟩ ⟨fun _ => fr0⟩)
structure ResB where
  f : FX → Hp → (List X → R) → R
def resB (cx : Cx) (l : List SRes) : ResB := @List.rec SRes (fun _ => ResB) ⟨fun _ _ k => k []⟩ (fun r _ ih => @SRes.rec (fun _ => ResB)
  (fun t => @Option.rec Nat (fun _ => ResB) ⟨fun _ _ _ => none⟩ (fun j => ⟨fun fr h k => opn ((tr3.get j).g fr) fun a m o => ih.f fr h fun xs => k (⟨a, m, o⟩ :: xs)⟩) (cnd (mem cx.PV t) none (ix cx.G t)))
  (fun t ag sz => @Option.rec Nat (fun _ => ResB) ⟨fun _ _ _ => none⟩ (fun j => cnd (mem cx.PV t) ⟨fun fr h k => frc ((tr3.get j).g fr).n fun m => cndR (Nat.beq m 14) none (xLoadC ag 0 sz ((tr3.get j).g fr) h fun x _ => ih.f fr h fun xs => k (x :: xs))⟩
    ⟨fun _ _ _ => none⟩) (ix cx.G t)) r) l
structure Fun where
  G : List Nat
  PV : List Nat
  FL : List Nat
  na : Nat
  sc : SCode
  res : List SRes
  lev : Nat
def okG : Nat → Nat → List Nat → Bool
  | 0, _, _ => true
  | n + 1, j, G => match G with
    | [] => false
    | g :: G => Nat.beq g j && okG n (j + 1) G
def nodupB : List Nat → Bool
  | [] => true
  | x :: l => !(mem l x) && nodupB l
def okF (F : Fun) : Bool := okG F.na 0 F.G && (nodupB F.G && (Nat.ble F.G.length 64 && (Nat.ble F.na 8 && F.PV.all fun p => Nat.ble F.na p)))
def exF (cl : Nat → FC) (F : Fun) : FC := cnd (okF F)
  ⟨fun xs h k => cndR (Nat.beq (lenL xs) F.na) ((exC ⟨cl, F.G, F.PV, F.FL, fuelN⟩ F.sc en0 (endR ⟨cl, F.G, F.PV, F.FL, fuelN⟩ 0)).f ((iniT F.na).g xs) [] h fun e fr h => cndR (Nat.ble e 1) ((resB ⟨cl, F.G, F.PV, F.FL, fuelN⟩ F.res).f fr h fun ys => rcL ys (k ⟨3, [], oZ⟩ h) fun y t => rcL t (k y h) fun _ _ => k ⟨3, ys, oZ⟩ h) none) none⟩ fcN
def lvB (a l : Nat) : Bool := cnd (Nat.beq (Nat.mod a 64) l) true (Nat.beq (Nat.div a 64) l)
def clAt (code : Nat → Option Fun) (l : Nat) : Nat → FC := @Nat.rec (fun _ => Nat → FC) (fun _ => fcN)
  (fun l ih g => @Option.rec Fun (fun _ => FC) fcN (fun F => cnd (lvB F.lev l) (exF ih F) (ih g)) (code g)) l
def fxZ : T8 := f4 (f4 (f4 (f4 (f4 (f4 (f4 (f4 (mk0 0))))))))
def h0 (q : List X) : Hp := ⟨0, 0, fxZ, [], q⟩
def okB (r : R) : Bool := @Option.rec (List Prop) (fun _ => Bool) false (fun _ => true) r
end
end Go.M
