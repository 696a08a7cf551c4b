/-
  Plain lemmas for MachineLimits.
  No condition beyond those that each theorem states.
-/
import Derived.Test.YtfcecgfjjamlcaaGreatTabXMachineLimits
import Derived.WalkKit
import Derived.Laws.LoneSync
import Derived.RegionCalls
set_option linter.all false
set_option linter.unusedSimpArgs false
set_option maxRecDepth 20000
set_option maxHeartbeats 4000000
namespace Go.Eng
open Go Go.Proofs

/-- (*atomic.Int64).Store -/
theorem at_store (a : Addr) (x : Value) (v : Int) (w : World) (hc : w.cell? a = some x) (hz : w.frozen? a = false) :
    Calls Tryz.prog 301 #[.pointer (some a), .int .i64 v] w fun e w' => e = .returned (.tuple #[]) ∧ w' = w.setCell a (.int .i64 v) := by
  have hst := run_call_store (P := Tryz.prog) Tryz.func397 (by kernel_rfl) (by kernel_rfl) (by kernel_rfl) (by kernel_rfl) (k := .i64) (y := v) hc hz
  go_enter Tryz.func301, Tryz.ntmps301
  go_wp2
  go_end0
  exact ⟨rfl, rfl⟩
theorem at_load (a : Addr) (x : Int) (w : World) (hc : w.cell? a = some (.int .i64 x)) :
    Calls Tryz.prog 303 #[.pointer (some a)] w fun e w' => e = .returned (.int .i64 x) ∧ w' = w := by
  have hst := run_call_load (P := Tryz.prog) Tryz.func399 (by kernel_rfl) (by kernel_rfl) (by kernel_rfl) .i64 (by kernel_rfl) hc
  go_enter Tryz.func303, Tryz.ntmps303
  go_wp2
  refine bodyPost_ret (results_tmp rfl _ _ _) rfl ?_
  exact ⟨rfl, rfl⟩
theorem at_cas (a : Addr) (x o y : Int) (w : World) (hc : w.cell? a = some (.int .i64 x)) (hz : w.frozen? a = false) :
    Calls Tryz.prog 302 #[.pointer (some a), .int .i64 o, .int .i64 y] w fun e w' => e = .returned (.bool (x == o)) ∧ w' = if x = o then w.setCell a (.int .i64 y) else w := by
  by_cases h : x = o
  · subst h
    have hst := run_call_cas_hit (P := Tryz.prog) Tryz.func398 (by kernel_rfl) (by kernel_rfl) (by kernel_rfl) .i64 (by kernel_rfl) (y := y) hc hz
    go_enter Tryz.func302, Tryz.ntmps302
    go_wp2
    refine bodyPost_ret (results_tmp rfl _ _ _) rfl ?_
    exact ⟨by simp, by simp⟩
  · have hst := run_call_cas_miss (P := Tryz.prog) Tryz.func398 (by kernel_rfl) (by kernel_rfl) (by kernel_rfl) .i64 (by kernel_rfl) (y := y) hc hz h
    go_enter Tryz.func302, Tryz.ntmps302
    go_wp2
    refine bodyPost_ret (results_tmp rfl _ _ _) rfl ?_
    exact ⟨by simp [h], by simp [h]⟩

/-- A box of one cell, written. -/
theorem HR.set1 {C : Ctx} {ρ : Nat → Loc} {U : Nat → Prop} {w : World} {c : AV} {g o n : Nat} {e : TypeId} {cells : Array Value} (hr : HR C ρ U [(0, .box [c])] w)
    (hl : ρ 0 = .at g o n) (hg : w.heap[g]? = some (.cells cells e (0, 0))) (hs : o + n ≤ cells.size) (hn : n = 1) (v : Value) :
    ∃ ρ' U', HR C ρ' U' [(0, .box [.v v])] (w.setCell ⟨g, o, none⟩ v) := by
  have hu := (hr.hp 0 (.box [c]) rfl).1
  have hm : Moved C ρ U [(0, .box [c])] w 0 (ρ 0) (w.setCell ⟨g, o, none⟩ v) := by
    refine ⟨rfl, rfl, rfl, by simp, fun k hk hkb => ?_, .inl ⟨hu, rfl⟩⟩
    by_cases hkg : k = g
    · subst hkg; exact absurd hl (hkb o n)
    · exact heap_setCell_other w _ k v hkg
  have hb := heap_setCell_same w g o cells e v hg
  have := hm.hr hr (ob := .box [.v v]) (fun _ => ⟨_, rfl⟩) (by
    rw [hl]
    refine ⟨g, o, n, e, _, rfl, hb, by simpa using hs, by simpa using hn, fun j x hj => ?_⟩
    cases j with
    | zero =>
      simp at hj
      subst hj
      refine ⟨v, ?_, .p (.v _)⟩
      simp [Array.getElem?_setIfInBounds]
      omega
    | succ j => simp at hj)
  exact ⟨_, _, HR.heq (fun b => by simp only [get]; split <;> rfl) this⟩

theorem at_args {C : Ctx} {ρ : Nat → Loc} {U : Nat → Prop} {w : World} {x : Int} {p : Value} (hr : HR C ρ U (outs [[.v (.int .i64 x)]] []) w) (hp : VR w (okc C ρ w) ρ U (.ptr 0 0) p) :
    ∃ g o n e cells, ρ 0 = .at g o n ∧ w.heap[g]? = some (.cells cells e (0, 0)) ∧ o + n ≤ cells.size ∧ n = 1 ∧ p = .pointer (some ⟨g, o, none⟩) ∧ w.cell? ⟨g, o, none⟩ = some (.int .i64 x) ∧ w.frozen? ⟨g, o, none⟩ = false := by
  obtain ⟨hu, g, o, n, e, cells, h1, h2, h3, h4, h5⟩ := hr.hp 0 (.box [.v (.int .i64 x)]) rfl
  obtain ⟨_, a, rfl, ha⟩ := hp.ptr_inv
  obtain ⟨u, h6, h7⟩ := h5 0 _ rfl
  have := h7.v_inv
  subst this
  refine ⟨g, o, n, e, cells, h1, h2, h3, by simpa using h4, by rw [ha g o n h1]; rfl, ?_, ?_⟩
  · simp only [World.cell?, h2]
    simpa using h6
  · simp [World.frozen?, h2]

theorem at301 (x v : Int) : FnG Tryz.prog 301 [.ptr 0 0, .v (.int .i64 v)] [[.v (.int .i64 x)]] [] (.tup []) [[.v (.int .i64 v)]] [] := by
  refine ⟨⟨Tryz.f301, Tryz.func301, by kernel_rfl, by kernel_rfl⟩, fun C ρ U w vals hr hU hv => ?_⟩
  obtain ⟨hlv, hg⟩ := hv
  obtain ⟨p, q, rfl⟩ : ∃ p q, vals = #[p, q] := by
    match vals, hlv with
    | ⟨[p, q]⟩, _ => exact ⟨p, q, rfl⟩
  have h0 := hg 0 _ p rfl rfl
  have h1 := (hg 1 _ q rfl rfl).v_inv
  subst h1
  obtain ⟨g, o, n, e, cells, hl, hc, hs, hn, rfl, hx, hz⟩ := at_args hr h0
  refine (at_store _ _ v w hx hz).mono fun e w' hp => ?_
  obtain ⟨rfl, rfl⟩ := hp
  obtain ⟨ρ', U', h⟩ := HR.set1 (c := .v (.int .i64 x)) hr hl hc hs hn (.int .i64 v)
  exact ⟨_, ρ', U', rfl, h, .p (.tup rfl (fun i c u h => by simp at h))⟩
theorem at303 (x : Int) : FnG Tryz.prog 303 [.ptr 0 0] [[.v (.int .i64 x)]] [] (.v (.int .i64 x)) [[.v (.int .i64 x)]] [] := by
  refine ⟨⟨Tryz.f303, Tryz.func303, by kernel_rfl, by kernel_rfl⟩, fun C ρ U w vals hr hU hv => ?_⟩
  obtain ⟨hlv, hg⟩ := hv
  obtain ⟨p, rfl⟩ : ∃ p, vals = #[p] := by
    match vals, hlv with
    | ⟨[p]⟩, _ => exact ⟨p, rfl⟩
  have h0 := hg 0 _ p rfl rfl
  obtain ⟨g, o, n, e, cells, hl, hc, hs, hn, rfl, hx, hz⟩ := at_args hr h0
  refine (at_load _ _ w hx).mono fun e w' hp => ?_
  obtain ⟨rfl, rfl⟩ := hp
  exact ⟨_, ρ, U, rfl, hr, .p (.v _)⟩
theorem at302 (x o y : Int) : FnG Tryz.prog 302 [.ptr 0 0, .v (.int .i64 o), .v (.int .i64 y)] [[.v (.int .i64 x)]] [] (.v (.bool (x == o))) [[.v (.int .i64 (if x = o then y else x))]] [] := by
  refine ⟨⟨Tryz.f302, Tryz.func302, by kernel_rfl, by kernel_rfl⟩, fun C ρ U w vals hr hU hv => ?_⟩
  obtain ⟨hlv, hg⟩ := hv
  obtain ⟨p, q, r, rfl⟩ : ∃ p q r, vals = #[p, q, r] := by
    match vals, hlv with
    | ⟨[p, q, r]⟩, _ => exact ⟨p, q, r, rfl⟩
  have h0 := hg 0 _ p rfl rfl
  have h1 := (hg 1 _ q rfl rfl).v_inv
  have h2 := (hg 2 _ r rfl rfl).v_inv
  subst h1 h2
  obtain ⟨g, o', n, e, cells, hl, hc, hs, hn, rfl, hx, hz⟩ := at_args hr h0
  refine (at_cas _ x o y w hx hz).mono fun e w' hp => ?_
  obtain ⟨rfl, rfl⟩ := hp
  by_cases h : x = o
  · rw [if_pos h, if_pos h]
    obtain ⟨ρ', U', h⟩ := HR.set1 (c := .v (.int .i64 x)) hr hl hc hs hn (.int .i64 y)
    exact ⟨_, ρ', U', rfl, h, .p (.v _)⟩
  · rw [if_neg h, if_neg h]
    exact ⟨_, ρ, U, rfl, hr, .p (.v _)⟩

/-- What the atomic cell's functions give. -/
def smAt : Hook := fun f xs bs => match f, xs, bs with
  | 301, [.ptr 0 0, .v (.int .i64 v)], [[.v (.int .i64 _)]] => some (.tup [], [[.v (.int .i64 v)]])
  | 302, [.ptr 0 0, .v (.int .i64 o), .v (.int .i64 y)], [[.v (.int .i64 x)]] => bif eqI x o then some (.v (.bool true), [[.v (.int .i64 y)]]) else some (.v (.bool false), [[.v (.int .i64 x)]])
  | 303, [.ptr 0 0], [[.v (.int .i64 x)]] => some (.v (.int .i64 x), [[.v (.int .i64 x)]])
  | _, _, _ => none
theorem smAt_ok : SmOk Tryz.prog smAt := by
  intro f xs bs r bs' h
  unfold smAt at h
  split at h
  · cases h; exact at301 _ _
  · rename_i o y x
    have := at302 x o y
    rw [eqI_eq] at h
    cases hb : (x == o) with
    | true =>
      rw [hb] at h
      have he : x = o := by simpa using hb
      rw [hb, if_pos he] at this
      cases h
      exact this
    | false =>
      rw [hb] at h
      have he : ¬ x = o := by simpa using hb
      rw [hb, if_neg he] at this
      cases h
      exact this
  · cases h; exact at303 _
  · cases h
end Go.Eng
