/-
  Walks and plain lemmas for RingBuilt: what the functions named below compute, over the abstract states of the engine.
  No condition beyond those that each theorem states.
-/
import Derived.Test.YteonhcjaekodkaaRng8
set_option linter.all false
set_option linter.unusedSimpArgs false
set_option maxRecDepth 20000
set_option maxHeartbeats 4000000
namespace Go.Eng
open Go Go.Proofs

/-- A ring beside a list, in a script. -/
structure RP (n len : Nat) where
  i : Nat
  h : Nat
  l : List Msg
  off : Nat
  rows : List (List AV)
  a : Nat
  hi : 1 ≤ i ∧ i ≤ 41
  rg : Rg n h l
  ok : ∀ m ∈ l, m.ok
  lt : ∀ m ∈ l, m.id < i
  nd : (ids l).Nodup
  hr : (rows.drop off).take l.length = encM l
  hr2 : off + l.length ≤ rows.length
  ha : a ≤ len
theorem rows_nth {rows : List (List AV)} {off k : Nat} {l : List Msg} (hr : (rows.drop off).take l.length = encM l) (hk : k < l.length) : nth rows (off + k) = l[k].enc := by
  have e : nth (encM l) k = l[k].enc := encM_nth hk
  rw [← e, ← hr]
  simp [nth, List.getElem?_take_of_lt hk, List.getElem?_drop]
def rpS (L : List Int) (n : Nat) (q : RP n L.length) : St :=
  ⟨2000, [(3, .ptr 24 0), (4, .ptr 88 0), (6, .own 1500 7 q.off q.l.length), (7, I q.i)], [(24, .box (srcB L q.a)), (88, .box [slM (rcs n q.h q.l), I q.h, I q.l.length]), (1500, .row 44 7 q.rows)]⟩

theorem roomE_full {n h : Nat} {l : List Msg} {m : Msg} (rg : Rg n h l) (hm : m.val = 0) (hl : l.length = n) : roomE (rcs n h l) h l.length m = 3 := by
  unfold roomE
  rw [if_neg (by simp [rg.ok]), if_neg (by simp [hm]), if_pos (by rw [rcs_len]; omega)]
theorem pushB_full {n h : Nat} {l : List Msg} {m : Msg} (rg : Rg n h l) (hm : m.val = 0) (hl : l.length = n) : pushBA (rcs n h l) h l.length m = .tup [ringA [] 0 0, I 3] := by
  unfold pushBA
  rw [roomE_full rg hm hl]; rfl
theorem pushF_full {n h : Nat} {l : List Msg} {m : Msg} (rg : Rg n h l) (hm : m.val = 0) (hl : l.length = n) : pushFA (rcs n h l) h l.length m = .tup [ringA [] 0 0, I 3] := by
  unfold pushFA
  rw [roomE_full rg hm hl]; rfl
theorem popF_ok {n h : Nat} {l : List Msg} {m : Msg} (rg : Rg n h (m :: l)) : popFA (rcs n h (m :: l)) h (m :: l).length = .tup [ringC n ((h + 1) % n) l, .agg m.enc, I 0] := by
  unfold popFA
  rw [if_neg (fun h => h rg.ok)]
  simp only [Int.toNat_natCast, ordL_rcs rg.ll rg.hh, rcs_len]
theorem popF_no {n h : Nat} (rg : Rg n h []) : popFA (rcs n h []) h ([] : List Msg).length = .tup [ringA [] 0 0, .agg zM.enc, I 4] := by
  unfold popFA
  rw [if_neg (fun h => h rg.ok)]
  simp only [Int.toNat_natCast, ordL_rcs rg.ll rg.hh]
theorem popB_ok {n h : Nat} {l : List Msg} (rg : Rg n h l) (hl : 0 < l.length) : popBA (rcs n h l) h l.length = .tup [ringC n h (l.take (l.length - 1)), .agg (gt l (l.length - 1)).enc, I 0] := by
  unfold popBA
  have e : l.eraseIdx (l.length - 1) = l.take (l.length - 1) := by rw [List.eraseIdx_eq_take_drop_succ, List.drop_of_length_le (by omega), List.append_nil]
  rw [if_neg (by simp [rg.ok]), if_neg (by omega)]
  simp only [Int.toNat_natCast, ordL_rcs rg.ll rg.hh, rcs_len, e]
theorem popB_no {n h : Nat} (rg : Rg n h []) : popBA (rcs n h []) h ([] : List Msg).length = .tup [ringA [] 0 0, .agg zM.enc, I 4] := by
  unfold popBA
  rw [if_neg (fun h => h rg.ok), if_pos (by simp)]
theorem Rg.of {n h : Nat} {l : List Msg} (h1 : 1 ≤ n) (h2 : n ≤ 12) (h3 : h < n) (h4 : l.length ≤ n) (h5 : ∀ m ∈ l, m.ok) (h6 : (ids l).Nodup) : Rg n h l := ⟨h1, h2, h3, h4, sndV_ok h5 h6⟩
end Go.Eng
