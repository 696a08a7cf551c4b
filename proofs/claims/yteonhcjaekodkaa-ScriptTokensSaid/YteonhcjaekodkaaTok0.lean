/-
  Walks and plain lemmas for ScriptTokens: what the functions named below compute, over the abstract states of the engine.
  No condition beyond those that each theorem states.
-/
import Derived.Laws.BitsLemmas
import Derived.Laws.Bits64
set_option linter.all false
set_option linter.unusedSimpArgs false
set_option maxRecDepth 20000
namespace Go.Eng
open Go

theorem bits_xor_nat (k : IntKind) (j : Nat) (hj : j ≤ k.bits) (hk : ∀ n : Int, 0 ≤ n → n < 2 ^ j → k.wrap n = n) (a b : Nat) (ha : a < 2 ^ j) (hb : b < 2 ^ j) :
    bits .xor k a b = ((a ^^^ b : Nat) : Int) := by
  have hp : 2 ^ j ≤ 2 ^ k.bits := Nat.pow_le_pow_right (by decide) hj
  have ha' : a % 2 ^ k.bits = a := Nat.mod_eq_of_lt (Nat.lt_of_lt_of_le ha hp)
  have hb' : b % 2 ^ k.bits = b := Nat.mod_eq_of_lt (Nat.lt_of_lt_of_le hb hp)
  have cast : ∀ n : Nat, n < 2 ^ j → ((n : Nat) : Int) < 2 ^ j := fun n h => by exact_mod_cast h
  simp only [bits, BitVec.ofInt_natCast, BitVec.toNat_xor, BitVec.toNat_ofNat, ha', hb']
  exact hk _ (Int.natCast_nonneg _) (cast _ (Nat.xor_lt_two_pow ha hb))
theorem wr_i64 (n : Int) (h0 : 0 ≤ n) (h1 : n < 2 ^ 63) : IntKind.i64.wrap n = n := by rw [IntKind.wrap_i64]; omega
theorem wr_u32 (n : Int) (h0 : 0 ≤ n) (h1 : n < 2 ^ 32) : IntKind.u32.wrap n = n := by rw [IntKind.wrap_u32]; omega

/-- One round of the hash. -/
def hs (h x : Nat) : Nat := ((h ^^^ x) * 16777619) % 4294967296
def sumB (h : Nat) : List UInt8 → Nat
  | [] => h
  | x :: b => sumB (hs h x.toNat) b
theorem sumB_app (h : Nat) : ∀ a b, sumB h (a ++ b) = sumB (sumB h a) b
  | [], _ => rfl
  | x :: a, b => sumB_app (hs h x.toNat) a b
theorem hs_lt (h x : Nat) : hs h x < 4294967296 := Nat.mod_lt _ (by decide)
theorem sumB_lt : ∀ (b : List UInt8) (h : Nat), h < 4294967296 → sumB h b < 4294967296
  | [], _, h => h
  | x :: b, h, _ => sumB_lt b _ (hs_lt h x.toNat)
theorem take_succ_get {α : Type} (b : List α) (j : Nat) (h : j < b.length) : b.take (j + 1) = b.take j ++ [b[j]] := by
  rw [List.take_succ_eq_append_getElem h]
theorem sumB_take (h : Nat) (b : List UInt8) (j : Nat) (hj : j < b.length) : sumB h (b.take (j + 1)) = hs (sumB h (b.take j)) b[j].toNat := by
  rw [take_succ_get b j hj, sumB_app]; rfl
def chk (b : List UInt8) : Nat := sumB 2166136261 (90 :: b)
theorem chk_lt (b : List UInt8) : chk b < 4294967296 := sumB_lt _ _ (by decide)

theorem xor_lt32 {h x : Nat} (h1 : h < 4294967296) (h2 : x < 256) : h ^^^ x < 4294967296 := Nat.xor_lt_two_pow (n := 32) h1 (by omega)
/-- The round in an int. -/
theorem hs_i64 (h x : Nat) (h1 : h < 4294967296) (h2 : x < 256) : bits .and .i64 (IntKind.i64.wrap (bits .xor .i64 (h : Int) (x : Int) * 16777619)) 4294967295 = ((hs h x : Nat) : Int) := by
  have e1 := xor_lt32 h1 h2
  rw [bits_xor_nat .i64 63 (by decide) wr_i64 h x (by omega) (by omega), wr_i64 _ (by omega) (by omega)]
  have e2 := bits_mask .i64 63 (by decide) wr_i64 32 (by decide) (((h ^^^ x : Nat) : Int) * 16777619) (by omega) (by omega)
  have e3 : ((2 : Int) ^ 32 - 1) = 4294967295 := by decide
  rw [e3] at e2
  rw [e2]
  unfold hs
  omega
/-- The round in 32 bits. -/
theorem hs_u32 (h x : Nat) (h1 : h < 4294967296) (h2 : x < 256) : IntKind.u32.wrap (bits .xor .u32 (h : Int) (x : Int) * 16777619) = ((hs h x : Nat) : Int) := by
  have e1 := xor_lt32 h1 h2
  rw [bits_xor_nat .u32 32 (by decide) wr_u32 h x (by omega) (by omega), IntKind.wrap_u32]
  unfold hs
  omega

/-- A number as bytes, the highest first. -/
def be (n : Nat) : Nat → Nat → List UInt8
  | _, 0 => []
  | s, q + 1 => be n s q ++ [(n / 2 ^ (8 * (s - 1 - q))).toUInt8]
def putB (n s : Nat) : List UInt8 := be n s s
theorem be_len (n s : Nat) : ∀ q, (be n s q).length = q
  | 0 => rfl
  | q + 1 => by simp [be, be_len n s q]
theorem putB_len (n s : Nat) : (putB n s).length = s := be_len n s s
def byN (b : List UInt8) (i : Nat) : Nat := (b[i]?.getD 0).toNat
theorem byN_lt (b : List UInt8) (i : Nat) : byN b i < 256 := (b[i]?.getD 0).toNat_lt
def gN (b : List UInt8) (a : Nat) : Nat → Nat
  | 0 => 0
  | j + 1 => gN b a j * 256 + byN b (a + j)
theorem gN_lt (b : List UInt8) (a : Nat) : ∀ j, gN b a j < 256 ^ j
  | 0 => by simp [gN]
  | j + 1 => by
    have := gN_lt b a j
    have := byN_lt b (a + j)
    simp only [gN, Nat.pow_succ]
    omega

/-- A handle. -/
structure Hd where
  id : Int
  gen : Int
  route : Int
  hint : Int
def Hd.ok (h : Hd) : Prop := (1 ≤ h.id ∧ h.id ≤ 1073741824) ∧ (1 ≤ h.gen ∧ h.gen ≤ 65536) ∧ (0 ≤ h.route ∧ h.route < 65536) ∧ (0 ≤ h.hint ∧ h.hint < 6)
instance (h : Hd) : Decidable h.ok := by unfold Hd.ok; exact inferInstance
def headB (h : Hd) : List UInt8 := [113] ++ putB h.id.toNat 4 ++ putB h.gen.toNat 3 ++ putB h.route.toNat 2 ++ [h.hint.toNat.toUInt8, 0]
def tokB (h : Hd) : List UInt8 := headB h ++ putB (chk (headB h)) 4
theorem tokB_len (h : Hd) : (tokB h).length = 16 := by simp [tokB, headB, putB_len]
def zH : Hd := ⟨0, 0, 0, 0⟩
def readH (b : List UInt8) : Hd := ⟨gN b 1 4, gN b 5 3, gN b 8 2, gN b 10 1⟩
/-- The handle of bytes. -/
def parse (b : List UInt8) : Option Hd := if b.length = 16 ∧ (readH b).ok ∧ tokB (readH b) = b then some (readH b) else none
theorem parse_ok {b : List UInt8} {h : Hd} (e : parse b = some h) : h.ok := by
  unfold parse at e
  split at e
  · rename_i c; cases e; exact c.2.1
  · cases e
theorem u8N (n : Nat) : n.toUInt8.toNat = n % 256 := rfl
theorem readH_head (h : Hd) (hk : h.ok) (c : List UInt8) : readH (headB h ++ c) = h := by
  obtain ⟨id, gen, route, hint⟩ := h
  obtain ⟨h1, h2, h3, h4⟩ := hk
  simp only at h1 h2 h3 h4
  simp only [readH, headB, putB, be, gN, byN, List.nil_append, List.cons_append, List.append_assoc, Nat.reduceAdd, Nat.reduceSub, Nat.reduceMul, Nat.reducePow, List.getElem?_cons_succ, List.getElem?_cons_zero, Option.getD_some, u8N, Hd.mk.injEq]
  refine ⟨?_, ?_, ?_, ?_⟩ <;> omega
theorem parse_tokB (h : Hd) (hk : h.ok) : parse (tokB h) = some h := by
  have e : readH (tokB h) = h := readH_head h hk _
  unfold parse
  rw [e, if_pos ⟨tokB_len h, hk, rfl⟩]
/-- The last byte with its lowest bit turned. -/
def flip (b : List UInt8) : List UInt8 := b.set (b.length - 1) ((b[b.length - 1]?.getD 0) ^^^ 1)
theorem flip_ne (b : List UInt8) (h : b ≠ []) : flip b ≠ b := by
  intro e
  have hl : b.length - 1 < b.length := by cases b with | nil => exact absurd rfl h | cons _ _ => simp
  have h1 : (flip b)[b.length - 1]? = b[b.length - 1]? := by rw [e]
  rw [flip, List.getElem?_set_self hl, List.getElem?_eq_getElem hl, Option.getD_some] at h1
  have h2 : b[b.length - 1] ^^^ 1 = b[b.length - 1] := by simpa using h1
  have h3 := congrArg UInt8.toBitVec h2
  have h4 : b[b.length - 1].toBitVec ^^^ 1#8 = b[b.length - 1].toBitVec := h3
  revert h4
  generalize b[b.length - 1].toBitVec = v
  revert v
  decide
theorem parse_flip (h : Hd) (hk : h.ok) : parse (flip (tokB h)) = none := by
  have hl : (headB h).length = 12 := by simp [headB, putB_len]
  have hp : (putB (chk (headB h)) 4).length = 4 := putB_len _ _
  have e1 : ∃ c, flip (tokB h) = headB h ++ c := by
    refine ⟨(putB (chk (headB h)) 4).set 3 (((tokB h)[15]?.getD 0) ^^^ 1), ?_⟩
    unfold flip
    rw [tokB_len]
    rw [show (tokB h).set (16 - 1) (((tokB h)[16 - 1]?.getD 0) ^^^ 1) = (headB h ++ putB (chk (headB h)) 4).set 15 (((tokB h)[15]?.getD 0) ^^^ 1) from rfl, List.set_append_right _ _ (by omega), hl]
  obtain ⟨c, e1⟩ := e1
  have e : readH (flip (tokB h)) = h := by rw [e1]; exact readH_head h hk c
  unfold parse
  rw [e, if_neg]
  intro ⟨_, _, h3⟩
  exact flip_ne (tokB h) (by intro e0; have := tokB_len h; rw [e0] at this; cases this) h3.symm
end Go.Eng
