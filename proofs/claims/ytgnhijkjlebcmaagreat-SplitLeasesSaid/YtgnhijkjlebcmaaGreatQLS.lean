/-
  The reader of a list of numbers: what its functions do.
  No condition.
-/
import Derived.Test.YtgnhijkjlebcmaaGreatQL0S
import Derived.Test.YtgnhijkjlebcmaaGreatQaS
set_option linter.all false
set_option maxRecDepth 100000
set_option maxHeartbeats 4000000
namespace Go.M
open Go Go.Proofs
noncomputable section
theorem drawL_ok [l : Lst] : FcOk Tryz.prog 17 (fcDraw lst1 n0L zsL) := fcDraw_ok ⟨Tryz.f17, Tryz.func17, by kernel_rfl, by kernel_rfl⟩ fun p i n w w0 hΦ ho hpb hp hpi hz hi hn hnm => by
  obtain ⟨b, o, s⟩ := p
  obtain rfl : s = none := cell_spot hp
  have hp1 : w.cell? ⟨b, o + 1, none⟩ = some (.int .i64 i) := hpi
  have hz1 : w.frozen? ⟨b, o + 1, none⟩ = false := hz
  by_cases h : i < n0L
  · obtain ⟨lb, lo, h1, h2, h3⟩ := HasL.some hΦ h
    have h4 := cell_old ho h2
    have hlb : lb ≠ b := fun e => by have h3 : lb < w0.heap.size := h3; have hpb : w0.heap.size ≤ b := hpb; omega
    rw [lst1_some h1] at hp
    refine (n_some b o n0L l.cap i lb lo n _ w hp hp1 hz1 h4 hlb h n0L_le n0L_cap hn hnm).mono fun e w' hh => ?_
    rw [drw_lt' h, nxt_lt' h]
    exact hh
  · refine (n_end b o n0L l.cap i n l.a w hp hp1 (by omega) hn).mono fun e w' hh => ?_
    rw [drw_ge' h, nxt_ge' h, setCell_same hpi]
    exact hh
theorem newr_ok [l : Lst] : FcOk Tryz.prog 7 (fcNew lst0 lst1) := fcNew_ok ⟨Tryz.f7, Tryz.func7, by kernel_rfl, by kernel_rfl⟩ lst1_one fun w => by
  by_cases h : l.len ≤ 4000
  · rw [lst1_le h]; exact new_le _ _ _ w h
  · rw [lst1_gt (by omega)]; exact new_gt _ _ _ w (by omega) l.h
def hkL [l : Lst] (f : Nat) : FC := cnd (Nat.beq f 17) (fcDraw lst1 n0L zsL) (cnd (Nat.beq f 7) (fcNew lst0 lst1) (hkN f))
theorem hkL_ok [l : Lst] : CallsOk Tryz.prog hkL := fun g => by
  show FcOk Tryz.prog g (cnd (Nat.beq g 17) (fcDraw lst1 n0L zsL) (cnd (Nat.beq g 7) (fcNew lst0 lst1) (hkN g)))
  cases h1 : Nat.beq g 17 with
  | true => rw [beqT h1]; exact drawL_ok
  | false => cases h2 : Nat.beq g 7 with
    | true => rw [beqT h2]; exact newr_ok
    | false => exact hk_ok g
end
end Go.M
