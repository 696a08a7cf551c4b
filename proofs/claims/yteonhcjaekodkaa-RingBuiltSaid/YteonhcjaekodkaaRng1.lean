/-
  Walks and plain lemmas for RingBuilt: what the functions named below compute, over the abstract states of the engine.
  No condition beyond those that each theorem states.
-/
import Derived.Test.YteonhcjaekodkaaMsg3
set_option linter.all false
set_option linter.unusedSimpArgs false
set_option maxRecDepth 20000
set_option maxHeartbeats 4000000
namespace Go.Eng
open Go Go.Proofs

def zM : Msg := ⟨0, 0, 0, 0, 0, 0, ⟨#[]⟩⟩
def gt (l : List Msg) (k : Nat) : Msg := l[k]?.getD zM
theorem gt_in {l : List Msg} {k : Nat} (h : k < l.length) : gt l k = l[k] := by simp [gt, h]
theorem gt_out {l : List Msg} {k : Nat} (h : l.length ≤ k) : gt l k = zM := by simp [gt, List.getElem?_eq_none h]

/-- The offset of a cell from the head. -/
theorem off_cell {n h i : Nat} (hi : i < n) (hh : h < n) : ((h + i) % n + n - h) % n = i := by
  by_cases e : h + i < n
  · rw [Nat.mod_eq_of_lt e, show h + i + n - h = i + n by omega, Nat.add_mod_right, Nat.mod_eq_of_lt hi]
  · rw [show (h + i) % n = h + i - n by rw [Nat.mod_eq_sub_mod (by omega), Nat.mod_eq_of_lt (by omega)], show h + i - n + n - h = i by omega, Nat.mod_eq_of_lt hi]
theorem cell_off {n h p : Nat} (hp : p < n) (hh : h < n) : (h + (p + n - h) % n) % n = p := by
  by_cases e : h ≤ p
  · rw [show p + n - h = (p - h) + n by omega, Nat.add_mod_right, Nat.mod_eq_of_lt (show p - h < n by omega), show h + (p - h) = p by omega, Nat.mod_eq_of_lt hp]
  · rw [Nat.mod_eq_of_lt (show p + n - h < n by omega), show h + (p + n - h) = p + n by omega, Nat.add_mod_right, Nat.mod_eq_of_lt hp]
theorem off_lt {n h p : Nat} (hp : p < n) : (p + n - h) % n < n := Nat.mod_lt _ (by omega)

/-- The cells of a ring with n cells and a head, that hold f. -/
def wth (n h : Nat) (f : Nat → Msg) : List Msg := (List.range n).map fun p => f ((p + n - h) % n)
theorem wth_len (n h : Nat) (f : Nat → Msg) : (wth n h f).length = n := by simp [wth]
theorem wth_at {n h : Nat} {f : Nat → Msg} {p : Nat} (hp : p < (wth n h f).length) : (wth n h f)[p] = f ((p + n - h) % n) := by simp [wth]
theorem wth_cell {n h i : Nat} (f : Nat → Msg) (hi : i < n) (hh : h < n) : gt (wth n h f) ((h + i) % n) = f i := by
  have hlt : (h + i) % n < (wth n h f).length := by rw [wth_len]; exact Nat.mod_lt _ (by omega)
  rw [gt_in hlt, wth_at, off_cell hi hh]
theorem wth_congr {n h : Nat} {f g : Nat → Msg} (e : ∀ k, k < n → f k = g k) : wth n h f = wth n h g := by
  refine List.map_congr_left fun p hp => ?_
  exact e _ (off_lt (List.mem_range.1 hp))
theorem wth_set {n h i : Nat} (f : Nat → Msg) (x : Msg) (hi : i < n) (hh : h < n) : (wth n h f).set ((h + i) % n) x = wth n h (fun k => if k = i then x else f k) := by
  refine List.ext_getElem (by simp [wth_len]) fun p h1 h2 => ?_
  rw [List.getElem_set, wth_at h2]
  simp only [wth_len] at h2
  by_cases e : (h + i) % n = p
  · rw [if_pos e, if_pos (by rw [← e]; exact off_cell hi hh)]
  · rw [if_neg e, wth_at, if_neg]
    intro e2
    rw [← e2, cell_off h2 hh] at e
    exact e rfl
theorem wth_next {n h : Nat} (f : Nat → Msg) (hh : h < n) : wth n h f = wth n ((h + 1) % n) (fun k => f ((k + 1) % n)) := by
  refine List.map_congr_left fun p hp => ?_
  have hp := List.mem_range.1 hp
  have h2 : (h + 1) % n < n := Nat.mod_lt _ (by omega)
  congr 1
  have e1 := cell_off hp h2
  have h3 := off_lt (h := (h + 1) % n) hp
  generalize (p + n - (h + 1) % n) % n = k at e1 h3 ⊢
  have e2 : (h + (k + 1) % n) % n = p := by
    rw [← e1, Nat.add_mod_mod, Nat.mod_add_mod]
    congr 1; omega
  rw [← e2, off_cell (Nat.mod_lt _ (by omega)) hh]

/-- The cells of a ring that holds a list. -/
def rcs (n h : Nat) (l : List Msg) : List Msg := wth n h (gt l)
theorem rcs_len (n h : Nat) (l : List Msg) : (rcs n h l).length = n := wth_len ..
theorem rcs_cell {n h i : Nat} (l : List Msg) (hi : i < n) (hh : h < n) : gt (rcs n h l) ((h + i) % n) = gt l i := wth_cell _ hi hh
theorem rcs_nth {n h i : Nat} (l : List Msg) (hi : i < n) (hh : h < n) : nth (encM (rcs n h l)) ((h + i) % n) = (gt l i).enc := by
  have hlt : (h + i) % n < (rcs n h l).length := by rw [rcs_len]; exact Nat.mod_lt _ (by omega)
  rw [encM_nth hlt, ← gt_in hlt, rcs_cell l hi hh]
theorem encM_set (l : List Msg) (k : Nat) (m : Msg) : (encM l).set k m.enc = encM (l.set k m) := by simp [encM, List.map_set]
theorem rcs_set {n h i : Nat} {l l' : List Msg} {x : Msg} (hi : i < n) (hh : h < n) (e : ∀ k, k < n → gt l' k = if k = i then x else gt l k) : (rcs n h l).set ((h + i) % n) x = rcs n h l' := by
  unfold rcs
  rw [wth_set _ _ hi hh]
  exact wth_congr fun k hk => (e k hk).symm
theorem rcs_push {n h : Nat} {l : List Msg} (x : Msg) (hl : l.length < n) (hh : h < n) : (rcs n h l).set ((h + l.length) % n) x = rcs n h (l ++ [x]) := by
  refine rcs_set hl hh fun k hk => ?_
  by_cases e : k = l.length
  · subst e; simp [gt]
  · rw [if_neg e]
    by_cases e2 : k < l.length
    · simp [gt, List.getElem?_append_left e2]
    · rw [gt_out (by simp; omega), gt_out (by omega)]
theorem rcs_pop {n h : Nat} {l : List Msg} {x : Msg} (hl : (l ++ [x]).length ≤ n) (hh : h < n) : (rcs n h (l ++ [x])).set ((h + l.length) % n) zM = rcs n h l := by
  refine rcs_set (by simp at hl; omega) hh fun k hk => ?_
  by_cases e : k = l.length
  · subst e; rw [if_pos rfl, gt_out (Nat.le_refl _)]
  · rw [if_neg e]
    by_cases e2 : k < l.length
    · simp [gt, List.getElem?_append_left e2]
    · rw [gt_out (by omega), gt_out (by simp; omega)]
theorem rcs_tail {n h : Nat} {l : List Msg} {x : Msg} (hl : (x :: l).length ≤ n) (hh : h < n) : (rcs n h (x :: l)).set h zM = rcs n ((h + 1) % n) l := by
  have e0 : (h + 0) % n = h := Nat.mod_eq_of_lt hh
  have := wth_set (i := 0) (gt (x :: l)) zM (show 0 < n by omega) hh
  rw [e0] at this
  unfold rcs
  rw [this, wth_next _ hh]
  refine wth_congr fun k hk => ?_
  by_cases e : k + 1 < n
  · rw [Nat.mod_eq_of_lt e, if_neg (by omega)]
    simp [gt]
  · have : k + 1 = n := by omega
    rw [this, Nat.mod_self, if_pos rfl, gt_out (by simp at hl; omega)]
theorem rcs_cons {n h : Nat} {l : List Msg} (x : Msg) (_hl : l.length < n) (hh : h < n) : (rcs n h l).set ((h + (n - 1)) % n) x = rcs n ((h + (n - 1)) % n) (x :: l) := by
  have h2 : (h + (n - 1)) % n < n := Nat.mod_lt _ (by omega)
  have e0 : ((h + (n - 1)) % n + 1) % n = h := by rw [Nat.mod_add_mod, show h + (n - 1) + 1 = h + n by omega, Nat.add_mod_right, Nat.mod_eq_of_lt hh]
  unfold rcs
  rw [wth_set _ _ (show n - 1 < n by omega) hh, wth_next (gt (x :: l)) h2, e0]
  refine wth_congr fun k hk => ?_
  by_cases e : k = n - 1
  · subst e
    rw [if_pos rfl, show n - 1 + 1 = n by omega, Nat.mod_self]
    rfl
  · rw [if_neg e, Nat.mod_eq_of_lt (show k + 1 < n by omega)]
    simp [gt]
theorem rcs_nil (n h : Nat) : rcs n h [] = List.replicate n zM := by
  refine List.ext_getElem (by simp [rcs_len]) fun p h1 h2 => ?_
  simp [rcs, wth, gt]

abbrev ringA (cs : List Msg) (h s : Int) : AV := .agg [slM cs, I h, I s]
abbrev ringC (n h : Nat) (l : List Msg) : AV := ringA (rcs n h l) h l.length
def ordL (cs : List Msg) (h s : Nat) : List Msg := (List.range s).map fun i => gt cs ((h + i) % cs.length)
theorem ordL_len (cs : List Msg) (h s : Nat) : (ordL cs h s).length = s := by simp [ordL]
theorem ordL_rcs {n h : Nat} {l : List Msg} (hl : l.length ≤ n) (hh : h < n) : ordL (rcs n h l) h l.length = l := by
  refine List.ext_getElem (by simp [ordL]) fun i h1 h2 => ?_
  simp only [ordL, List.getElem_map, List.getElem_range, rcs_len]
  rw [rcs_cell l (by omega) hh, gt_in h2]
theorem rcs_ord {cs : List Msg} {h s : Nat} (hh : h < cs.length) (hs : s ≤ cs.length) (hz : ∀ i, s ≤ i → i < cs.length → gt cs ((h + i) % cs.length) = zM) : rcs cs.length h (ordL cs h s) = cs := by
  refine List.ext_getElem (by rw [rcs_len]) fun p h1 h2 => ?_
  have e0 : (rcs cs.length h (ordL cs h s))[p] = gt (ordL cs h s) ((p + cs.length - h) % cs.length) := wth_at (f := gt (ordL cs h s)) (by rw [wth_len]; exact h2)
  rw [e0]
  have e1 := cell_off h2 hh
  have h3 := off_lt (h := h) h2
  generalize (p + cs.length - h) % cs.length = k at e1 h3 ⊢
  rw [← gt_in h2]
  by_cases e : k < s
  · simp [gt, ordL, e, e1]
  · rw [gt_out (by rw [ordL_len]; omega), ← e1, hz k (by omega) h3]
end Go.Eng
