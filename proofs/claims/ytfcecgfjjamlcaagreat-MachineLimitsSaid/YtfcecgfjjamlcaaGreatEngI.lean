/-
  The engine, joined part I: an abstract interpreter over the kit's calls, and its soundness.
  No condition beyond those that each theorem states.
-/
import Derived.Test.YtfcecgfjjamlcaaGreatEngH
set_option linter.all false
namespace Go.Eng
open Go
structure X where
  n : Nat
  l : List X
  o : AV
def oZ : AV := .v undef
mutual
def X.dec : X → AV
  | ⟨n, l, o⟩ => match n % 16 with
    | 0 => .v (.int .i64 (Int.ofNat (n / 16)))
    | 1 => .v (.bool (Nat.beq (n / 16) 1))
    | 2 => .agg (decL l)
    | 4 => .sl (n / 16) (decR l)
    | 5 => .tup (decL l)
    | 6 => .v (.slice none 0 0)
    | 7 => .ptr (n / 16384) (n / 16 % 1024)
    | 8 => .own (n / 17592186044416) (n / 16 % 256) (n / 4096 % 65536) (n / 268435456 % 65536)
    | 9 => .pel (decL l) (n / 16)
    | 10 => .rp (n / 68719476736) (n / 16 % 256) (n / 4096 % 65536) (n / 268435456 % 256)
    | 11 => .v undef
    | _ => o
def decL : List X → List AV
  | [] => []
  | x :: l => x.dec :: decL l
def decR : List X → List (List AV)
  | [] => []
  | ⟨_, l, _⟩ :: r => decL l :: decR r
end
noncomputable section
def xU : X := ⟨11, [], oZ⟩
def mkI (n : Nat) : X := ⟨n, [], oZ⟩
def mkB (b : Bool) : X := @Bool.rec (fun _ => X) ⟨1, [], oZ⟩ ⟨17, [], oZ⟩ b
def encV : Value → X
  | .int .i64 (.ofNat k) => ⟨16 * k, [], oZ⟩
  | .bool b => mkB b
  | .slice none 0 0 => ⟨6, [], oZ⟩
  | v => ⟨15, [], .v v⟩
mutual
def enc : AV → X
  | .v x => encV x
  | .agg cs => ⟨2, encL cs, oZ⟩
  | .tup cs => ⟨5, encL cs, oZ⟩
  | .sl sz xs => ⟨16 * sz + 4, encR xs, oZ⟩
  | .own b sz off len => bif Nat.blt sz 256 && (Nat.blt off 65536 && Nat.blt len 65536) then ⟨17592186044416 * b + 268435456 * len + 4096 * off + 16 * sz + 8, [], oZ⟩ else ⟨15, [], .own b sz off len⟩
  | .ptr b j => bif Nat.blt j 1024 then ⟨16384 * b + 16 * j + 7, [], oZ⟩ else ⟨15, [], .ptr b j⟩
  | .rp b sz k j => bif Nat.blt sz 256 && (Nat.blt k 65536 && Nat.blt j 256) then ⟨68719476736 * b + 268435456 * j + 4096 * k + 16 * sz + 10, [], oZ⟩ else ⟨15, [], .rp b sz k j⟩
  | .pel cs j => ⟨16 * j + 9, encL cs, oZ⟩
  | .mp b => ⟨15, [], .mp b⟩
  | .fn f cs => ⟨15, [], .fn f cs⟩
def encL : List AV → List X
  | [] => []
  | x :: l => enc x :: encL l
def encR : List (List AV) → List X
  | [] => []
  | e :: r => ⟨2, encL e, oZ⟩ :: encR r
end
end
theorem X.dec2 {x : X} (h : x.n % 16 = 2) : x.dec = .agg (decL x.l) := by obtain ⟨n, l, o⟩ := x; simp only [X.dec, h]
theorem X.dec0 {x : X} (h : x.n % 16 = 0) : x.dec = .v (.int .i64 (Int.ofNat (x.n / 16))) := by obtain ⟨n, l, o⟩ := x; simp only [X.dec, h]
theorem X.dec1 {x : X} (h : x.n % 16 = 1) : x.dec = .v (.bool (Nat.beq (x.n / 16) 1)) := by obtain ⟨n, l, o⟩ := x; simp only [X.dec, h]
theorem X.dec4 {x : X} (h : x.n % 16 = 4) : x.dec = .sl (x.n / 16) (decR x.l) := by obtain ⟨n, l, o⟩ := x; simp only [X.dec, h]
theorem X.dec5 {x : X} (h : x.n % 16 = 5) : x.dec = .tup (decL x.l) := by obtain ⟨n, l, o⟩ := x; simp only [X.dec, h]
theorem X.dec6 {x : X} (h : x.n % 16 = 6) : x.dec = .v (.slice none 0 0) := by obtain ⟨n, l, o⟩ := x; simp only [X.dec, h]
theorem X.dec7 {x : X} (h : x.n % 16 = 7) : x.dec = .ptr (x.n / 16384) (x.n / 16 % 1024) := by obtain ⟨n, l, o⟩ := x; simp only [X.dec, h]
theorem X.dec8 {x : X} (h : x.n % 16 = 8) : x.dec = .own (x.n / 17592186044416) (x.n / 16 % 256) (x.n / 4096 % 65536) (x.n / 268435456 % 65536) := by obtain ⟨n, l, o⟩ := x; simp only [X.dec, h]
theorem X.dec9 {x : X} (h : x.n % 16 = 9) : x.dec = .pel (decL x.l) (x.n / 16) := by obtain ⟨n, l, o⟩ := x; simp only [X.dec, h]
theorem X.dec10 {x : X} (h : x.n % 16 = 10) : x.dec = .rp (x.n / 68719476736) (x.n / 16 % 256) (x.n / 4096 % 65536) (x.n / 268435456 % 256) := by obtain ⟨n, l, o⟩ := x; simp only [X.dec, h]
theorem X.dec11 {x : X} (h : x.n % 16 = 11) : x.dec = .v undef := by obtain ⟨n, l, o⟩ := x; simp only [X.dec, h]
theorem X.decE {x : X} (h : x.n % 16 = 3 ∨ 12 ≤ x.n % 16) : x.dec = x.o := by
  obtain ⟨n, l, o⟩ := x
  simp only at h
  simp only [X.dec]
  have hlt : n % 16 < 16 := Nat.mod_lt _ (by omega)
  generalize n % 16 = t at h hlt
  have ht : t = 3 ∨ t = 12 ∨ t = 13 ∨ t = 14 ∨ t = 15 := by omega
  rcases ht with rfl | rfl | rfl | rfl | rfl <;> rfl
theorem dec_15 (o : AV) : (X.mk 15 [] o).dec = o := by simp only [X.dec]
theorem dec_6 : (X.mk 6 [] oZ).dec = .v (.slice none 0 0) := by simp only [X.dec]
theorem dec_int (k : Nat) (l : List X) (o : AV) : (X.mk (16 * k) l o).dec = .v (.int .i64 (Int.ofNat k)) := by
  rw [X.dec0 (show 16 * k % 16 = 0 by omega)]
  show AV.v (.int .i64 (Int.ofNat (16 * k / 16))) = _
  rw [show 16 * k / 16 = k by omega]
theorem mkB_dec (b : Bool) : (mkB b).dec = .v (.bool b) := by cases b <;> (simp only [mkB, X.dec]; rfl)
theorem encV_dec (v : Value) : (encV v).dec = .v v := by
  unfold encV
  split
  · exact dec_int _ _ _
  · exact mkB_dec _
  · exact dec_6
  · exact dec_15 _
theorem dec_ptr (b j : Nat) (h : j < 1024) (l : List X) (o : AV) : (X.mk (16384 * b + 16 * j + 7) l o).dec = .ptr b j := by
  rw [X.dec7 (show (16384 * b + 16 * j + 7) % 16 = 7 by omega)]
  show AV.ptr ((16384 * b + 16 * j + 7) / 16384) ((16384 * b + 16 * j + 7) / 16 % 1024) = _
  rw [show (16384 * b + 16 * j + 7) / 16384 = b by omega, show (16384 * b + 16 * j + 7) / 16 % 1024 = j by omega]
theorem dec_own (b sz off len : Nat) (h1 : sz < 256) (h2 : off < 65536) (h3 : len < 65536) (l : List X) (o : AV) : (X.mk (17592186044416 * b + 268435456 * len + 4096 * off + 16 * sz + 8) l o).dec = .own b sz off len := by
  rw [X.dec8 (show (17592186044416 * b + 268435456 * len + 4096 * off + 16 * sz + 8) % 16 = 8 by omega)]
  show AV.own ((17592186044416 * b + 268435456 * len + 4096 * off + 16 * sz + 8) / 17592186044416) ((17592186044416 * b + 268435456 * len + 4096 * off + 16 * sz + 8) / 16 % 256) ((17592186044416 * b + 268435456 * len + 4096 * off + 16 * sz + 8) / 4096 % 65536) ((17592186044416 * b + 268435456 * len + 4096 * off + 16 * sz + 8) / 268435456 % 65536) = _
  rw [show (17592186044416 * b + 268435456 * len + 4096 * off + 16 * sz + 8) / 17592186044416 = b by omega, show (17592186044416 * b + 268435456 * len + 4096 * off + 16 * sz + 8) / 16 % 256 = sz by omega, show (17592186044416 * b + 268435456 * len + 4096 * off + 16 * sz + 8) / 4096 % 65536 = off by omega, show (17592186044416 * b + 268435456 * len + 4096 * off + 16 * sz + 8) / 268435456 % 65536 = len by omega]
theorem dec_rp (b sz k j : Nat) (h1 : sz < 256) (h2 : k < 65536) (h3 : j < 256) (l : List X) (o : AV) : (X.mk (68719476736 * b + 268435456 * j + 4096 * k + 16 * sz + 10) l o).dec = .rp b sz k j := by
  rw [X.dec10 (show (68719476736 * b + 268435456 * j + 4096 * k + 16 * sz + 10) % 16 = 10 by omega)]
  show AV.rp ((68719476736 * b + 268435456 * j + 4096 * k + 16 * sz + 10) / 68719476736) ((68719476736 * b + 268435456 * j + 4096 * k + 16 * sz + 10) / 16 % 256) ((68719476736 * b + 268435456 * j + 4096 * k + 16 * sz + 10) / 4096 % 65536) ((68719476736 * b + 268435456 * j + 4096 * k + 16 * sz + 10) / 268435456 % 256) = _
  rw [show (68719476736 * b + 268435456 * j + 4096 * k + 16 * sz + 10) / 68719476736 = b by omega, show (68719476736 * b + 268435456 * j + 4096 * k + 16 * sz + 10) / 16 % 256 = sz by omega, show (68719476736 * b + 268435456 * j + 4096 * k + 16 * sz + 10) / 4096 % 65536 = k by omega, show (68719476736 * b + 268435456 * j + 4096 * k + 16 * sz + 10) / 268435456 % 256 = j by omega]
theorem dec_sl (sz : Nat) (l : List X) (o : AV) : (X.mk (16 * sz + 4) l o).dec = .sl sz (decR l) := by
  rw [X.dec4 (show (16 * sz + 4) % 16 = 4 by omega)]
  show AV.sl ((16 * sz + 4) / 16) (decR l) = _
  rw [show (16 * sz + 4) / 16 = sz by omega]
theorem dec_pel (j : Nat) (l : List X) (o : AV) : (X.mk (16 * j + 9) l o).dec = .pel (decL l) j := by
  rw [X.dec9 (show (16 * j + 9) % 16 = 9 by omega)]
  show AV.pel (decL l) ((16 * j + 9) / 16) = _
  rw [show (16 * j + 9) / 16 = j by omega]
theorem dec_agg (l : List X) (o : AV) : (X.mk 2 l o).dec = .agg (decL l) := by simp only [X.dec]
theorem dec_tup (l : List X) (o : AV) : (X.mk 5 l o).dec = .tup (decL l) := by simp only [X.dec]
theorem dec_U : xU.dec = .v undef := by simp only [xU, X.dec]
mutual
theorem enc_dec : ∀ a : AV, (enc a).dec = a
  | .v x => by rw [enc]; exact encV_dec x
  | .agg cs => by rw [enc, dec_agg, encL_dec cs]
  | .tup cs => by rw [enc, dec_tup, encL_dec cs]
  | .sl sz xs => by rw [enc, dec_sl, encR_dec xs]
  | .own b sz off len => by
    rw [enc]
    cases h : Nat.blt sz 256 && (Nat.blt off 65536 && Nat.blt len 65536) with
    | true =>
      simp only [Bool.and_eq_true] at h
      exact dec_own b sz off len (blt_lt h.1) (blt_lt h.2.1) (blt_lt h.2.2) _ _
    | false => exact dec_15 _
  | .ptr b j => by
    rw [enc]
    cases h : Nat.blt j 1024 with
    | true => exact dec_ptr b j (blt_lt h) _ _
    | false => exact dec_15 _
  | .rp b sz k j => by
    rw [enc]
    cases h : Nat.blt sz 256 && (Nat.blt k 65536 && Nat.blt j 256) with
    | true =>
      simp only [Bool.and_eq_true] at h
      exact dec_rp b sz k j (blt_lt h.1) (blt_lt h.2.1) (blt_lt h.2.2) _ _
    | false => exact dec_15 _
  | .pel cs j => by rw [enc, dec_pel, encL_dec cs]
  | .mp b => by rw [enc]; exact dec_15 _
  | .fn f cs => by rw [enc]; exact dec_15 _
theorem encL_dec : ∀ l : List AV, decL (encL l) = l
  | [] => by rw [encL, decL]
  | x :: l => by rw [encL, decL, enc_dec x, encL_dec l]
theorem encR_dec : ∀ l : List (List AV), decR (encR l) = l
  | [] => by rw [encR, decR]
  | e :: r => by rw [encR, decR, encL_dec e, encR_dec r]
end
def tg (x : X) : Nat := Nat.land x.n 15
theorem tg_eq (x : X) : tg x = x.n % 16 := Nat.and_two_pow_sub_one_eq_mod x.n 4
def isT (x : X) (t : Nat) : Bool := Nat.beq (Nat.land x.n 15) t
theorem isT_eq {x : X} {t : Nat} (h : isT x t = true) : x.n % 16 = t := by
  have := Nat.eq_of_beq_eq_true h
  rw [← tg_eq]; exact this
theorem decL_get : ∀ (l : List X) (i : Nat), (decL l)[i]? = (l[i]?).map X.dec
  | [], i => by simp [decL]
  | x :: l, 0 => by simp [decL]
  | x :: l, i + 1 => by simpa [decL] using decL_get l i
theorem decL_len : ∀ (l : List X), (decL l).length = l.length
  | [] => by simp [decL]
  | x :: l => by simp [decL, decL_len l]
theorem decL_drop : ∀ (l : List X) (j : Nat), decL (l.drop j) = (decL l).drop j
  | [], j => by simp [decL]
  | x :: l, 0 => by simp
  | x :: l, j + 1 => by simpa [decL] using decL_drop l j
theorem decL_take : ∀ (l : List X) (j : Nat), decL (l.take j) = (decL l).take j
  | [], j => by simp [decL]
  | x :: l, 0 => by simp [decL]
  | x :: l, j + 1 => by simpa [decL] using decL_take l j
theorem decL_app : ∀ (l m : List X), decL (l ++ m) = decL l ++ decL m
  | [], m => by simp [decL]
  | x :: l, m => by simp [decL, decL_app l m]
theorem decL_map (l : List X) : decL l = l.map X.dec := by
  induction l with
  | nil => simp [decL]
  | cons x l ih => simp [decL, ih]
theorem decR_len : ∀ (l : List X), (decR l).length = l.length
  | [] => by simp [decR]
  | ⟨_, _, _⟩ :: l => by simp [decR, decR_len l]
theorem decR_map (l : List X) : decR l = l.map fun x => decL x.l := by
  induction l with
  | nil => simp [decR]
  | cons x l ih => obtain ⟨_, _, _⟩ := x; simp [decR, ih]
noncomputable section
def bitT (m : Nat) (x : X) : Bool := Nat.beq (Nat.land (Nat.shiftRight m (Nat.land x.n 15)) 1) 1
end
theorem bitT_eq {m : Nat} {x : X} (h : bitT m x = true) : (m >>> (x.n % 16)) % 2 = 1 := by
  have h1 : Nat.land (Nat.shiftRight m (Nat.land x.n 15)) 1 = 1 := Nat.eq_of_beq_eq_true h
  have h2 : Nat.land x.n 15 = x.n % 16 := Nat.and_two_pow_sub_one_eq_mod x.n 4
  rw [h2] at h1
  have h3 : Nat.land (Nat.shiftRight m (x.n % 16)) 1 = (m >>> (x.n % 16)) % 2 := Nat.and_one_is_mod _
  rw [← h3]; exact h1
noncomputable def pur0 (x : X) : Bool := @Bool.rec (fun _ => Bool) (@Bool.rec (fun _ => Bool) false x.o.pure (bitT 61448 x)) true (bitT 2643 x)
theorem bits_2643 {t : Nat} (hl : t < 16) (h : (2643 >>> t) % 2 = 1) : t = 0 ∨ t = 1 ∨ t = 4 ∨ t = 6 ∨ t = 9 ∨ t = 11 := by
  have ht : t = 0 ∨ t = 1 ∨ t = 2 ∨ t = 3 ∨ t = 4 ∨ t = 5 ∨ t = 6 ∨ t = 7 ∨ t = 8 ∨ t = 9 ∨ t = 10 ∨ t = 11 ∨ t = 12 ∨ t = 13 ∨ t = 14 ∨ t = 15 := by omega
  rcases ht with rfl | rfl | rfl | rfl | rfl | rfl | rfl | rfl | rfl | rfl | rfl | rfl | rfl | rfl | rfl | rfl <;> first | omega | (exfalso; revert h; decide)
theorem bits_61448 {t : Nat} (hl : t < 16) (h : (61448 >>> t) % 2 = 1) : t = 3 ∨ 12 ≤ t := by
  have ht : t = 0 ∨ t = 1 ∨ t = 2 ∨ t = 3 ∨ t = 4 ∨ t = 5 ∨ t = 6 ∨ t = 7 ∨ t = 8 ∨ t = 9 ∨ t = 10 ∨ t = 11 ∨ t = 12 ∨ t = 13 ∨ t = 14 ∨ t = 15 := by omega
  rcases ht with rfl | rfl | rfl | rfl | rfl | rfl | rfl | rfl | rfl | rfl | rfl | rfl | rfl | rfl | rfl | rfl <;> first | omega | (exfalso; revert h; decide)
theorem pur0_ok {x : X} (h : pur0 x = true) : x.dec.pure = true := by
  unfold pur0 at h
  cases hb : bitT 2643 x with
  | true =>
    rcases bits_2643 (Nat.mod_lt _ (by omega)) (bitT_eq hb) with e | e | e | e | e | e
    · rw [X.dec0 e]; rfl
    · rw [X.dec1 e]; rfl
    · rw [X.dec4 e]; rfl
    · rw [X.dec6 e]; rfl
    · rw [X.dec9 e]; rfl
    · rw [X.dec11 e]; rfl
  | false =>
    rw [hb] at h
    cases hc : bitT 61448 x with
    | true => rw [hc] at h; rw [X.decE (bits_61448 (Nat.mod_lt _ (by omega)) (bitT_eq hc))]; exact h
    | false => rw [hc] at h; cases h
noncomputable def allX (p : X → Bool) (l : List X) : Bool := @List.rec X (fun _ => Bool) true (fun x _ ih => @Bool.rec (fun _ => Bool) false ih (p x)) l
theorem allX_cons {p : X → Bool} {x : X} {l : List X} (h : allX p (x :: l) = true) : p x = true ∧ allX p l = true := by
  have h' : @Bool.rec (fun _ => Bool) false (allX p l) (p x) = true := h
  cases hx : p x with
  | true => rw [hx] at h'; exact ⟨rfl, h'⟩
  | false => rw [hx] at h'; cases h'
noncomputable def pur1 (x : X) : Bool := @Bool.rec (fun _ => Bool) (pur0 x) (allX pur0 x.l) (isT x 2)
theorem allpur_ok {p : X → Bool} (hp : ∀ x, p x = true → x.dec.pure = true) : ∀ {l : List X}, allX p l = true → pureL (decL l) = true
  | [], _ => by simp [decL, pureL]
  | x :: l, h => by
    obtain ⟨h1, h2⟩ := allX_cons h
    simp only [decL, pureL, hp x h1, allpur_ok hp h2, Bool.and_self]
theorem pur1_ok {x : X} (h : pur1 x = true) : x.dec.pure = true := by
  unfold pur1 at h
  cases hb : isT x 2 with
  | true =>
    rw [hb] at h
    rw [X.dec2 (isT_eq hb)]
    exact allpur_ok (fun _ => pur0_ok) h
  | false => rw [hb] at h; exact pur0_ok h
noncomputable def purL (l : List X) : Bool := allX pur1 l
theorem purL_ok {l : List X} (h : purL l = true) : pureL (decL l) = true := allpur_ok (fun _ => pur1_ok) h
noncomputable def one0 (x : X) : Bool := @Bool.rec (fun _ => Bool) (@Bool.rec (fun _ => Bool) false x.o.one (bitT 61448 x)) true (bitT 2003 x)
theorem bits_2003 {t : Nat} (hl : t < 16) (h : (2003 >>> t) % 2 = 1) : t = 0 ∨ t = 1 ∨ t = 4 ∨ t = 6 ∨ t = 7 ∨ t = 8 ∨ t = 9 ∨ t = 10 := by
  have ht : t = 0 ∨ t = 1 ∨ t = 2 ∨ t = 3 ∨ t = 4 ∨ t = 5 ∨ t = 6 ∨ t = 7 ∨ t = 8 ∨ t = 9 ∨ t = 10 ∨ t = 11 ∨ t = 12 ∨ t = 13 ∨ t = 14 ∨ t = 15 := by omega
  rcases ht with rfl | rfl | rfl | rfl | rfl | rfl | rfl | rfl | rfl | rfl | rfl | rfl | rfl | rfl | rfl | rfl <;> first | omega | (exfalso; revert h; decide)
theorem one0_ok {x : X} (h : one0 x = true) : x.dec.one = true := by
  unfold one0 at h
  cases hb : bitT 2003 x with
  | true =>
    rcases bits_2003 (Nat.mod_lt _ (by omega)) (bitT_eq hb) with e | e | e | e | e | e | e | e
    · rw [X.dec0 e]; rfl
    · rw [X.dec1 e]; rfl
    · rw [X.dec4 e]; rfl
    · rw [X.dec6 e]; rfl
    · rw [X.dec7 e]; rfl
    · rw [X.dec8 e]; rfl
    · rw [X.dec9 e]; rfl
    · rw [X.dec10 e]; rfl
  | false =>
    rw [hb] at h
    cases hc : bitT 61448 x with
    | true => rw [hc] at h; rw [X.decE (bits_61448 (Nat.mod_lt _ (by omega)) (bitT_eq hc))]; exact h
    | false => rw [hc] at h; cases h
theorem one0_L : ∀ {l : List X}, allX one0 l = true → oneL (decL l) = true
  | [], _ => by simp [decL, oneL]
  | x :: l, h => by
    obtain ⟨h1, h2⟩ := allX_cons h
    simp only [decL, oneL, one0_ok h1, one0_L h2, Bool.and_self]
end Go.Eng

namespace Go.Eng
open Go
inductive FX where
  | nil
  | c (a b d e : Option X) (r : FX)
def FX.l : FX → List (Option X)
  | .nil => []
  | .c a b d e r => a :: b :: d :: e :: r.l
def gtF (T : FX) (i : Nat) : Option X := (T.l[i]?).getD none
def posG : List Nat → Nat → Option Nat
  | [], _ => none
  | j :: G, k => bif Nat.beq j k then some 0 else match posG G k with
    | some i => some (i + 1)
    | none => none
theorem posG_some : ∀ {G : List Nat} {k i : Nat}, posG G k = some i → G[i]? = some k
  | [], k, i, h => by cases h
  | j :: G, k, i, h => by
    simp only [posG] at h
    cases hb : Nat.beq j k with
    | true => rw [hb] at h; cases h; rw [Nat.eq_of_beq_eq_true hb]; rfl
    | false =>
      rw [hb] at h
      simp only [cond_false] at h
      split at h
      · rename_i i' hi
        cases h
        simpa using posG_some hi
      · cases h
noncomputable section
def selO (j : Nat) (a b d e : Option X) : Option X := match j with
  | 0 => a
  | 1 => b
  | 2 => d
  | _ => e
def rdCk : Nat → Nat → FX → Option X
  | 0, j, T => @FX.rec (fun _ => Option X) none (fun a b d e _ _ => selO j a b d e) T
  | m + 1, j, T => @FX.rec (fun _ => Option X) none (fun _ _ _ _ r _ => rdCk m j r) T
def rdS (p : Nat) (T : FX) : Option X := rdCk (p / 4) (p % 4) T
end
theorem rdCk_get : ∀ {m j : Nat} {T : FX} {x : X}, j < 4 → rdCk m j T = some x → gtF T (4 * m + j) = some x
  | 0, j, T, x, hj, h => by
    cases T with
    | nil => cases h
    | c a b d e r =>
      have hj' : j = 0 ∨ j = 1 ∨ j = 2 ∨ j = 3 := by omega
      rcases hj' with rfl | rfl | rfl | rfl <;> exact h
  | m + 1, j, T, x, hj, h => by
    cases T with
    | nil => cases h
    | c a b d e r =>
      have := rdCk_get hj (show rdCk m j r = some x from h)
      unfold gtF at this ⊢
      rw [show 4 * (m + 1) + j = (4 * m + j) + 1 + 1 + 1 + 1 by omega]
      simpa only [FX.l, List.getElem?_cons_succ] using this
theorem rdS_get {p : Nat} {T : FX} {x : X} (h : rdS p T = some x) : gtF T p = some x := by
  have := rdCk_get (Nat.mod_lt _ (by omega)) h
  rw [show 4 * (p / 4) + p % 4 = p by omega] at this
  exact this
def clsX : Nat → List (Option X) → FX → FX
  | 0, _, R => R
  | m + 1, l, R => .c (l.headD none) (l.tail.headD none) (l.tail.tail.headD none) (l.tail.tail.tail.headD none) (clsX m l.tail.tail.tail.tail R)
theorem clsX_get : ∀ (m : Nat) (l : List (Option X)) (R : FX) (i : Nat), gtF (clsX m l R) i = if i < 4 * m then (l[i]?).getD none else gtF R (i - 4 * m)
  | 0, l, R, i => by simp [clsX]
  | m + 1, l, R, i => by
    have e0 : ∀ (l : List (Option X)), l.headD none = (l[0]?).getD none := fun l => by cases l <;> rfl
    have e1 : ∀ (l : List (Option X)) (n : Nat), l.tail[n]? = l[n + 1]? := fun l n => by cases l <;> simp
    have ih := clsX_get m l.tail.tail.tail.tail R (i - 4)
    rcases Nat.lt_or_ge i 4 with h | h
    · have hi : i = 0 ∨ i = 1 ∨ i = 2 ∨ i = 3 := by omega
      rw [if_pos (by omega)]
      rcases hi with rfl | rfl | rfl | rfl <;> simp only [gtF, clsX, FX.l, List.getElem?_cons_zero, List.getElem?_cons_succ, Option.getD_some, e0, e1]
    · have e2 : gtF (clsX (m + 1) l R) i = gtF (clsX m l.tail.tail.tail.tail R) (i - 4) := by
        obtain ⟨j, rfl⟩ : ∃ j, i = j + 1 + 1 + 1 + 1 := ⟨i - 4, by omega⟩
        simp only [gtF, clsX, FX.l, List.getElem?_cons_succ]
        rw [show j + 1 + 1 + 1 + 1 - 4 = j by omega]
      rw [e2, ih]
      by_cases hm : i < 4 * (m + 1)
      · rw [if_pos hm, if_pos (by omega)]
        simp only [e1]
        rw [show i - 4 + 1 + 1 + 1 + 1 = i by omega]
      · rw [if_neg hm, if_neg (by omega), show i - 4 - 4 * m = i - 4 * (m + 1) by omega]
structure XO where
  b : Nat
  k : Nat
  e : TypeId
  sz : Nat
  l : List X
  o : Ob
abbrev HX := List XO
def XO.decO (p : XO) : Ob := match p.k with
  | 0 => .box (decL p.l)
  | 1 => .row p.e p.sz (decR p.l)
  | _ => p.o
def decH : HX → Hp
  | [] => []
  | p :: H => (p.b, p.decO) :: decH H
noncomputable def encO (b : Nat) : Ob → XO
  | .box cs => ⟨b, 0, 0, 0, encL cs, .dead⟩
  | .row e sz xs => ⟨b, 1, e, sz, encR xs, .dead⟩
  | o => ⟨b, 2, 0, 0, [], o⟩
noncomputable def encH : Hp → HX
  | [] => []
  | p :: H => encO p.1 p.2 :: encH H
theorem encO_dec (b : Nat) (o : Ob) : (encO b o).decO = o ∧ (encO b o).b = b := by
  cases o <;> simp [encO, XO.decO, encL_dec, encR_dec]
theorem encH_dec : ∀ H : Hp, decH (encH H) = H
  | [] => rfl
  | (b, o) :: H => by simp only [encH, decH, encO_dec, encH_dec H]
theorem XO.dec0 {p : XO} (h : p.k = 0) : p.decO = .box (decL p.l) := by simp only [XO.decO, h]
theorem XO.dec1 {p : XO} (h : p.k = 1) : p.decO = .row p.e p.sz (decR p.l) := by simp only [XO.decO, h]
structure XRX where
  e : Exit
  n : Nat
  T : FX
  H : HX
  O : List Use
abbrev RRX := Option XRX
abbrev KX := X → HX → List Use → RRX
noncomputable section
def opnX : Nat → FX → (List (Option X) → FX → RRX) → RRX
  | 0, T, k => k [] T
  | m + 1, T, k => @FX.rec (fun _ => RRX) none (fun a b d e r _ => opnX m r fun l R => k (a :: b :: d :: e :: l) R) T
def getX (H : HX) (b : Nat) (k : XO → RRX) : RRX := @List.rec XO (fun _ => RRX) none (fun p _ ih => @Bool.rec (fun _ => RRX) ih (k p) (Nat.beq p.b b)) H
def replX (b : Nat) (o : XO) (H : HX) : HX := @List.rec XO (fun _ => HX) [o] (fun p l ih => @Bool.rec (fun _ => HX) (p :: ih) (o :: l) (Nat.beq p.b b)) H
def upX (n : Nat) (u H : HX) : HX := @List.rec XO (fun _ => HX) H (fun p _ ih => @Bool.rec (fun _ => HX) (replX p.b p ih) (p :: ih) (Nat.ble n p.b)) u
def ifX (b : Bool) (k : RRX) : RRX := @Bool.rec (fun _ => RRX) none k b
def iteX (b : Bool) (k d : RRX) : RRX := @Bool.rec (fun _ => RRX) d k b
def oX (x : Option X) (k : X → RRX) : RRX := @Option.rec X (fun _ => RRX) none k x
end
theorem opnX_some : ∀ {m : Nat} {T : FX} {k : List (Option X) → FX → RRX} {r}, opnX m T k = some r → ∃ l R, k l R = some r ∧ l.length = 4 * m ∧ T.l = l ++ R.l
  | 0, T, k, r, h => ⟨[], T, h, rfl, rfl⟩
  | m + 1, T, k, r, h => by
    cases T with
    | nil => cases h
    | c a b d e R0 =>
      obtain ⟨l, R, h1, h2, h3⟩ := opnX_some (show opnX m R0 (fun l R => k (a :: b :: d :: e :: l) R) = some r from h)
      exact ⟨_, R, h1, by simp only [List.length_cons, h2]; omega, by simp only [FX.l, h3, List.cons_append]⟩
theorem ifX_some {b : Bool} {k : RRX} {r} (h : ifX b k = some r) : b = true ∧ k = some r := by
  cases b with
  | true => exact ⟨rfl, h⟩
  | false => cases h
theorem iteX_some {b : Bool} {k d : RRX} {r} (h : iteX b k d = some r) : (b = true ∧ k = some r) ∨ (b = false ∧ d = some r) := by
  cases b with
  | true => exact .inl ⟨rfl, h⟩
  | false => exact .inr ⟨rfl, h⟩
theorem oX_some {x : Option X} {k : X → RRX} {r} (h : oX x k = some r) : ∃ y, x = some y ∧ k y = some r := by
  cases x with
  | none => cases h
  | some y => exact ⟨y, rfl, h⟩
theorem getX_some : ∀ {H : HX} {b : Nat} {k : XO → RRX} {r}, getX H b k = some r → ∃ p, get (decH H) b = some p.decO ∧ k p = some r
  | [], b, k, r, h => by cases h
  | p :: l, b, k, r, h => by
    have h : @Bool.rec (fun _ => RRX) (getX l b k) (k p) (Nat.beq p.b b) = some r := h
    simp only [decH, get]
    cases hb : Nat.beq p.b b with
    | true =>
      rw [hb] at h
      rw [if_pos (Nat.eq_of_beq_eq_true hb)]
      exact ⟨p, rfl, h⟩
    | false =>
      rw [hb] at h
      rw [if_neg (Nat.ne_of_beq_eq_false hb)]
      exact getX_some h
theorem replX_dec : ∀ (H : HX) (b : Nat) (o : XO), o.b = b → decH (replX b o H) = repl b o.decO (decH H)
  | [], b, o, hb => by subst hb; rfl
  | p :: l, b, o, hb => by
    have e : replX b o (p :: l) = @Bool.rec (fun _ => HX) (p :: replX b o l) (o :: l) (Nat.beq p.b b) := rfl
    rw [e]
    simp only [decH, repl]
    cases h : Nat.beq p.b b with
    | true => simp only [cond_true, decH, hb]
    | false => simp only [cond_false, decH, replX_dec l b o hb]
theorem replX_get (H : HX) (b : Nat) (o : XO) (hb : o.b = b) : HEq' ((b, o.decO) :: decH H) (decH (replX b o H)) := fun k => by rw [replX_dec H b o hb]; exact (repl_get _ _ _ _).symm
theorem upX_get {h : Hp} {H : HX} (hh : HEq' h (decH H)) (n : Nat) : ∀ (u : HX), HEq' (decH u ++ h) (decH (upX n u H))
  | [] => hh
  | p :: u => by
    have ih := upX_get hh n u
    have e : upX n (p :: u) H = @Bool.rec (fun _ => HX) (replX p.b p (upX n u H)) (p :: upX n u H) (Nat.ble n p.b) := rfl
    rw [e]
    intro k
    simp only [decH, List.cons_append]
    cases h : Nat.ble n p.b with
    | true => simp only [decH, get, ih k]
    | false => show _ = get (decH (replX p.b p (upX n u H))) k; rw [← replX_get _ _ _ rfl k]; simp only [get, ih k]
theorem HEq'.cons {h H : Hp} (hh : HEq' h H) (b : Nat) (o : Ob) : HEq' ((b, o) :: h) ((b, o) :: H) := fun k => by simp only [get, hh k]
theorem HEq'.trans {h H K : Hp} (h1 : HEq' h H) (h2 : HEq' H K) : HEq' h K := fun k => (h1 k).trans (h2 k)
noncomputable section
def nthX (l : List X) (j : Nat) (k : X → RRX) : RRX := @List.rec X (fun _ => Nat → RRX) (fun _ => none) (fun c _ ih j => @Nat.rec (fun _ => RRX) (k c) (fun i _ => ih i) j) l j
def lenX (l : List X) : Nat := @List.rec X (fun _ => Nat) 0 (fun _ _ ih => Nat.add ih 1) l
def dropX (l : List X) (j : Nat) : List X := @Nat.rec (fun _ => List X → List X) (fun l => l) (fun _ ih l => @List.rec X (fun _ => List X) [] (fun _ t _ => ih t) l) j l
def takeX (l : List X) (j : Nat) : List X := @List.rec X (fun _ => Nat → List X) (fun _ => []) (fun c _ ih j => @Nat.rec (fun _ => List X) [] (fun i _ => c :: ih i) j) l j
def appX (l m : List X) : List X := @List.rec X (fun _ => List X) m (fun c _ ih => c :: ih) l
def setX (l : List X) (j : Nat) (y : X) : List X := @List.rec X (fun _ => Nat → List X) (fun _ => []) (fun c t ih j => @Nat.rec (fun _ => List X) (y :: t) (fun i _ => c :: ih i) j) l j
def ovX (ys l : List X) : List X := @List.rec X (fun _ => List X → List X) (fun l => l) (fun y _ ih l => y :: ih (@List.rec X (fun _ => List X) [] (fun _ t _ => t) l)) ys l
def splX (l : List X) (j : Nat) (ys : List X) : List X := @List.rec X (fun _ => Nat → List X) (fun _ => ys) (fun c t ih j => @Nat.rec (fun _ => List X) (ovX ys (c :: t)) (fun i _ => c :: ih i) j) l j
def repX (n : Nat) (x : X) : List X := @Nat.rec (fun _ => List X) [] (fun _ ih => x :: ih) n
end
theorem nthX_some : ∀ {l : List X} {j : Nat} {k : X → RRX} {r}, nthX l j k = some r → ∃ c, l[j]? = some c ∧ k c = some r
  | [], j, k, r, h => by cases h
  | c :: l, 0, k, r, h => ⟨c, rfl, h⟩
  | c :: l, j + 1, k, r, h => by
    obtain ⟨c', h1, h2⟩ := nthX_some (l := l) (j := j) h
    exact ⟨c', by simpa using h1, h2⟩
theorem lenX_eq : ∀ l : List X, lenX l = l.length
  | [] => rfl
  | c :: l => by
    have e : lenX (c :: l) = lenX l + 1 := rfl
    rw [e, lenX_eq l, List.length_cons]
theorem dropX_eq : ∀ (l : List X) (j : Nat), dropX l j = l.drop j
  | l, 0 => rfl
  | [], j + 1 => by simp [dropX]
  | c :: l, j + 1 => by
    have e : dropX (c :: l) (j + 1) = dropX l j := rfl
    rw [e, dropX_eq l j, List.drop_succ_cons]
theorem takeX_eq : ∀ (l : List X) (j : Nat), takeX l j = l.take j
  | [], j => by simp [takeX]
  | c :: l, 0 => rfl
  | c :: l, j + 1 => by
    have e : takeX (c :: l) (j + 1) = c :: takeX l j := rfl
    rw [e, takeX_eq l j, List.take_succ_cons]
theorem appX_eq : ∀ (l m : List X), appX l m = l ++ m
  | [], m => rfl
  | c :: l, m => by
    have e : appX (c :: l) m = c :: appX l m := rfl
    rw [e, appX_eq l m, List.cons_append]
theorem setX_eq : ∀ (l : List X) (j : Nat) (y : X), setX l j y = l.set j y
  | [], j, y => by simp [setX]
  | c :: l, 0, y => rfl
  | c :: l, j + 1, y => by
    have e : setX (c :: l) (j + 1) y = c :: setX l j y := rfl
    rw [e, setX_eq l j y, List.set_cons_succ]
theorem ovX_eq : ∀ (ys l : List X), ys.length ≤ l.length → ovX ys l = ys ++ l.drop ys.length
  | [], l, h => rfl
  | y :: ys, [], h => by simp at h
  | y :: ys, c :: l, h => by
    have e : ovX (y :: ys) (c :: l) = y :: ovX ys l := rfl
    rw [e, ovX_eq ys l (by simpa using h)]; simp
theorem splX_eq : ∀ (j : Nat) (l ys : List X), j + ys.length ≤ l.length → splX l j ys = l.take j ++ (ys ++ l.drop (j + ys.length))
  | 0, [], ys, h => by
    have : ys = [] := List.length_eq_zero_iff.1 (by simp at h; simpa using h)
    subst this; rfl
  | 0, c :: l, ys, h => by
    have e : splX (c :: l) 0 ys = ovX ys (c :: l) := rfl
    rw [e, ovX_eq _ _ (by omega)]; simp
  | j + 1, [], ys, h => by simp at h
  | j + 1, c :: l, ys, h => by
    have e : splX (c :: l) (j + 1) ys = c :: splX l j ys := rfl
    rw [e, splX_eq j l ys (by simp at h; omega)]
    have : j + 1 + ys.length = j + ys.length + 1 := by omega
    rw [this]; simp
theorem splX_dec {j : Nat} {l ys : List X} (h : j + ys.length ≤ l.length) : decL (splX l j ys) = splice (decL l) j (decL ys) := by
  rw [splX_eq j l ys h]
  simp only [splice, decL_app, decL_take, decL_drop, decL_len]
theorem repX_eq : ∀ (n : Nat) (x : X), repX n x = List.replicate n x
  | 0, x => rfl
  | n + 1, x => by
    have e : repX (n + 1) x = x :: repX n x := rfl
    rw [e, repX_eq n x, List.replicate_succ]
theorem decL_set (l : List X) (j : Nat) (y : X) : decL (l.set j y) = (decL l).set j y.dec := by simp only [decL_map, List.map_set]
theorem decR_set (l : List X) (j : Nat) (y : X) : decR (l.set j y) = (decR l).set j (decL y.l) := by simp only [decR_map, List.map_set]
theorem decR_drop (l : List X) (j : Nat) : decR (l.drop j) = (decR l).drop j := by simp only [decR_map, List.map_drop]
theorem decR_take (l : List X) (j : Nat) : decR (l.take j) = (decR l).take j := by simp only [decR_map, List.map_take]
theorem decR_app (l m : List X) : decR (l ++ m) = decR l ++ decR m := by simp only [decR_map, List.map_append]
theorem decR_nth (l : List X) (j : Nat) (y : X) (h : l[j]? = some y) : nth (decR l) j = decL y.l := by simp only [nth, decR_map, List.getElem?_map, h]; rfl
end Go.Eng

namespace Go.Eng
open Go
def Sh (op : SOp) (nm : Nat) (H : Hp) (p : List (Nat × AV) → Prop) (y : AV) (u : Hp) (rd : List Nat) : Prop := ∀ (run : RunT) t o, p t → o.op = op → opX run nm o t H = some ⟨y, u, rd⟩
theorem Sh.of {op : SOp} {nm : Nat} {H : Hp} {p : List (Nat × AV) → Prop} {y : AV} {u : Hp} {rd : List Nat} (hp : plainOp op = true)
    (h : ∀ t, p t → ∃ c, eff2 nm t H op = some ⟨c, y, u⟩ ∧ preB t H op = true ∧ rdOf t op = rd) : Sh op nm H p y u rd := fun run t o ht ho => by
  obtain ⟨c, h1, h2, h3⟩ := h t ht
  exact opX_of ho hp h1 h2 h3
theorem wrapN {n : Nat} (h : n ≤ 9223372036854775807) : IntKind.i64.wrap (Int.ofNat n) = Int.ofNat n := by
  rw [IntKind.wrap_i64]; simp only [Int.ofNat_eq_natCast]; omega
abbrev IZ (k : Nat) : AV := .v (.int .i64 (Int.ofNat k))
noncomputable section
def twoI (a b : X) : Bool := Nat.beq (Nat.land (Nat.lor a.n b.n) 15) 0
def boolX (a : X) : Bool := Nat.beq (Nat.shiftRight a.n 4) 1
def notX (b : Bool) : Bool := @Bool.rec (fun _ => Bool) true false b
def binG (op : BinOp) (a b : X) (k : X → RRX) : RRX := @Option.rec Value (fun _ => RRX) none (fun c => k (encV c)) (binV op a.dec b.dec)
def xAdd (a b : X) (k : X → RRX) : RRX := iteX (twoI a b) (iteX (Nat.ble (Nat.add a.n b.n) 147573952589676412927) (k (mkI (Nat.add a.n b.n))) (binG .add a b k)) (binG .add a b k)
def xSub (a b : X) (k : X → RRX) : RRX := iteX (twoI a b) (iteX (Nat.ble b.n a.n) (iteX (Nat.ble a.n 147573952589676412927) (k (mkI (Nat.sub a.n b.n))) (binG .sub a b k)) (binG .sub a b k)) (binG .sub a b k)
def xMul (a b : X) (k : X → RRX) : RRX := iteX (twoI a b) (iteX (Nat.ble (Nat.mul a.n (Nat.shiftRight b.n 4)) 147573952589676412927) (k (mkI (Nat.mul a.n (Nat.shiftRight b.n 4)))) (binG .mul a b k)) (binG .mul a b k)
def xRem (a b : X) (k : X → RRX) : RRX := iteX (twoI a b) (iteX (Nat.ble 1 b.n) (k (mkI (Nat.mod a.n b.n))) none) (binG .rem a b k)
def xQuo (a b : X) (k : X → RRX) : RRX := iteX (twoI a b) (iteX (Nat.ble 1 b.n) (iteX (Nat.ble a.n 147573952589676412927) (k (mkI (Nat.mul 16 (Nat.div a.n b.n)))) (binG .quo a b k)) none) (binG .quo a b k)
def xCmp (f : Nat → Nat → Bool) (op : BinOp) (a b : X) (k : X → RRX) : RRX := iteX (twoI a b) (k (mkB (f a.n b.n))) (binG op a b k)
def cEq (m n : Nat) : Bool := Nat.beq m n
def cNe (m n : Nat) : Bool := notX (Nat.beq m n)
def cLt (m n : Nat) : Bool := notX (Nat.ble n m)
def cLe (m n : Nat) : Bool := Nat.ble m n
def cGt (m n : Nat) : Bool := notX (Nat.ble m n)
def cGe (m n : Nat) : Bool := Nat.ble n m
def xBin (op : BinOp) : X → X → (X → RRX) → RRX := match op with
  | .add => xAdd
  | .sub => xSub
  | .mul => xMul
  | .rem => xRem
  | .quo => xQuo
  | .eql => xCmp cEq .eql
  | .neq => xCmp cNe .neq
  | .lss => xCmp cLt .lss
  | .leq => xCmp cLe .leq
  | .gtr => xCmp cGt .gtr
  | .geq => xCmp cGe .geq
  | op => binG op
end
theorem notX_eq (b : Bool) : notX b = !b := by cases b <;> rfl
theorem twoI_ok {a b : X} (h : twoI a b = true) : a.n % 16 = 0 ∧ b.n % 16 = 0 := by
  have h1 : Nat.land (Nat.lor a.n b.n) 15 = 0 := Nat.eq_of_beq_eq_true h
  have h2 : Nat.land (Nat.lor a.n b.n) 15 = (a.n ||| b.n) % 2 ^ 4 := Nat.and_two_pow_sub_one_eq_mod (a.n ||| b.n) 4
  rw [h2, Nat.or_mod_two_pow, Nat.or_eq_zero_iff] at h1
  exact ⟨h1.1, h1.2⟩
theorem twoI_dec {a b : X} (h : twoI a b = true) : ∃ p q : Nat, a.n = 16 * p ∧ b.n = 16 * q ∧ a.dec = IZ p ∧ b.dec = IZ q := by
  obtain ⟨h1, h2⟩ := twoI_ok h
  exact ⟨a.n / 16, b.n / 16, by omega, by omega, X.dec0 h1, X.dec0 h2⟩
theorem mkI_dec (k : Nat) : (mkI (16 * k)).dec = IZ k := dec_int _ _ _
theorem binV_ok {op : BinOp} {a b : AV} {c : Value} (h : binV op a b = some c) {nm : Nat} {H : Hp} {x z : Operand} :
    Sh (.bin op x z) nm H (fun t => ev t x = some a ∧ ev t z = some b) (.v c) [] [] := by
  refine Sh.of rfl fun t ht => ?_
  obtain ⟨h1, h2⟩ := ht
  unfold binV at h
  split at h
  · rename_i a b
    split at h
    · rename_i c' hc
      cases h
      refine ⟨True, ?_, ?_, rfl⟩
      · simp only [eff2, h1, h2, hc]; rfl
      · simp only [preB, h1, h2, sbinB_eq, hc]
    · rename_i hn
      split at h
      · rename_i c' hc
        cases h
        refine ⟨true = true, ?_, ?_, rfl⟩
        · simp only [eff2, h1, h2, hn, hc]
        · simp only [preB, h1, h2, sbinB_eq, hn, hc]
      · cases h
  · cases h
theorem binG_ok {op : BinOp} {a b : X} {k : X → RRX} {r} (h : binG op a b k = some r) : ∃ y, k y = some r ∧ ∀ nm H x z, Sh (.bin op x z) nm H (fun t => ev t x = some a.dec ∧ ev t z = some b.dec) y.dec [] [] := by
  unfold binG at h
  cases hc : binV op a.dec b.dec with
  | none => rw [hc] at h; cases h
  | some c =>
    rw [hc] at h
    exact ⟨encV c, h, fun nm H x z => by rw [encV_dec]; exact binV_ok hc⟩
theorem fastB {op : BinOp} {a b : X} {y : X} {p q : Nat} (ha : a.dec = IZ p) (hb : b.dec = IZ q) {c : Value} (hy : y.dec = .v c) (hc : sbinB op (.int .i64 (Int.ofNat p)) (.int .i64 (Int.ofNat q)) = some c) :
    ∀ nm H x z, Sh (.bin op x z) nm H (fun t => ev t x = some a.dec ∧ ev t z = some b.dec) y.dec [] [] := by
  intro nm H x z
  rw [hy]
  exact binV_ok (by rw [ha, hb]; simp only [binV, hc])
theorem fastP {op : BinOp} {a b : X} {y : X} {p q : Nat} (ha : a.dec = IZ p) (hb : b.dec = IZ q) {c : Value} (hy : y.dec = .v c) (hc : sbinB op (.int .i64 (Int.ofNat p)) (.int .i64 (Int.ofNat q)) = none) (hc' : sbinPB op (.int .i64 (Int.ofNat p)) (.int .i64 (Int.ofNat q)) = some (true, c)) :
    ∀ nm H x z, Sh (.bin op x z) nm H (fun t => ev t x = some a.dec ∧ ev t z = some b.dec) y.dec [] [] := by
  intro nm H x z
  rw [hy]
  exact binV_ok (by rw [ha, hb]; simp only [binV, hc, hc'])
def BinOk (op : BinOp) (f : X → X → (X → RRX) → RRX) : Prop := ∀ a b k r, f a b k = some r → ∃ y, k y = some r ∧ ∀ nm H x z, Sh (.bin op x z) nm H (fun t => ev t x = some a.dec ∧ ev t z = some b.dec) y.dec [] []
theorem xAdd_ok : BinOk .add xAdd := by
  intro a b k r h
  rcases iteX_some h with ⟨h1, h⟩ | ⟨_, h⟩
  · rcases iteX_some h with ⟨h2, h⟩ | ⟨_, h⟩
    · obtain ⟨p, q, e1, e2, d1, d2⟩ := twoI_dec h1
      have h2 : a.n + b.n ≤ 147573952589676412927 := Nat.le_of_ble_eq_true h2
      refine ⟨_, h, fastB d1 d2 (c := .int .i64 (Int.ofNat (p + q))) ?_ ?_⟩
      · rw [show Nat.add a.n b.n = 16 * (p + q) by show a.n + b.n = _; omega]; exact mkI_dec _
      · simp only [sbinB, sbin, if_true]
        rw [← wrapN (show p + q ≤ 9223372036854775807 by omega)]; rfl
    · exact binG_ok h
  · exact binG_ok h
theorem xSub_ok : BinOk .sub xSub := by
  intro a b k r h
  rcases iteX_some h with ⟨h1, h⟩ | ⟨_, h⟩
  · rcases iteX_some h with ⟨h2, h⟩ | ⟨_, h⟩
    · rcases iteX_some h with ⟨h3, h⟩ | ⟨_, h⟩
      · obtain ⟨p, q, e1, e2, d1, d2⟩ := twoI_dec h1
        have h2 := Nat.le_of_ble_eq_true h2
        have h3 := Nat.le_of_ble_eq_true h3
        refine ⟨_, h, fastB d1 d2 (c := .int .i64 (Int.ofNat (p - q))) ?_ ?_⟩
        · rw [show Nat.sub a.n b.n = 16 * (p - q) by show a.n - b.n = _; omega]; exact mkI_dec _
        · simp only [sbinB, sbin, if_true]
          rw [show Int.ofNat p - Int.ofNat q = Int.ofNat (p - q) by simp only [Int.ofNat_eq_natCast]; omega, wrapN (show p - q ≤ 9223372036854775807 by omega)]
      · exact binG_ok h
    · exact binG_ok h
  · exact binG_ok h
theorem xMul_ok : BinOk .mul xMul := by
  intro a b k r h
  rcases iteX_some h with ⟨h1, h⟩ | ⟨_, h⟩
  · rcases iteX_some h with ⟨h2, h⟩ | ⟨_, h⟩
    · obtain ⟨p, q, e1, e2, d1, d2⟩ := twoI_dec h1
      have h2 : Nat.mul a.n (Nat.shiftRight b.n 4) ≤ 147573952589676412927 := Nat.le_of_ble_eq_true h2
      have e3 : Nat.mul a.n (Nat.shiftRight b.n 4) = 16 * (p * q) := by
        show a.n * (b.n >>> 4) = _
        rw [Nat.shiftRight_eq_div_pow, e1, e2, show 16 * q / 2 ^ 4 = q by omega, Nat.mul_assoc]
      rw [e3] at h h2
      refine ⟨_, h, fastB d1 d2 (c := .int .i64 (Int.ofNat (p * q))) (mkI_dec _) ?_⟩
      simp only [sbinB, sbin, if_true]
      rw [show Int.ofNat p * Int.ofNat q = Int.ofNat (p * q) by simp, wrapN (show p * q ≤ 9223372036854775807 by omega)]
    · exact binG_ok h
  · exact binG_ok h
theorem xRem_ok : BinOk .rem xRem := by
  intro a b k r h
  rcases iteX_some h with ⟨h1, h⟩ | ⟨_, h⟩
  · rcases iteX_some h with ⟨h2, h⟩ | ⟨_, h⟩
    · obtain ⟨p, q, e1, e2, d1, d2⟩ := twoI_dec h1
      have h2 := Nat.le_of_ble_eq_true h2
      have hq : q ≠ 0 := by omega
      have e3 : Nat.mod a.n b.n = 16 * (p % q) := by show a.n % b.n = _; rw [e1, e2, Nat.mul_mod_mul_left]
      rw [e3] at h
      refine ⟨_, h, fastP d1 d2 (c := .int .i64 (Int.ofNat (p % q))) (mkI_dec _) (by simp only [sbinB, sbin]) ?_⟩
      simp only [sbinPB, if_true]
      rw [decide_eq_true (show Int.ofNat q ≠ 0 by simp only [Int.ofNat_eq_natCast]; omega)]
      rfl
    · cases h
  · exact binG_ok h
theorem xQuo_ok : BinOk .quo xQuo := by
  intro a b k r h
  rcases iteX_some h with ⟨h1, h⟩ | ⟨_, h⟩
  · rcases iteX_some h with ⟨h2, h⟩ | ⟨_, h⟩
    · rcases iteX_some h with ⟨h3, h⟩ | ⟨_, h⟩
      · obtain ⟨p, q, e1, e2, d1, d2⟩ := twoI_dec h1
        have h2 := Nat.le_of_ble_eq_true h2
        have h3 := Nat.le_of_ble_eq_true h3
        have hq : q ≠ 0 := by omega
        have e3 : Nat.mul 16 (Nat.div a.n b.n) = 16 * (p / q) := by show 16 * (a.n / b.n) = _; rw [e1, e2, Nat.mul_div_mul_left _ _ (by omega)]
        rw [e3] at h
        have hle : p / q ≤ p := Nat.div_le_self _ _
        refine ⟨_, h, fastP d1 d2 (c := .int .i64 (Int.ofNat (p / q))) (mkI_dec _) (by simp only [sbinB, sbin]) ?_⟩
        simp only [sbinPB, if_true]
        rw [decide_eq_true (show Int.ofNat q ≠ 0 by simp only [Int.ofNat_eq_natCast]; omega), ← wrapN (show p / q ≤ 9223372036854775807 by omega)]
        rfl
      · exact binG_ok h
    · cases h
  · exact binG_ok h
theorem xCmp_ok {f : Nat → Nat → Bool} {op : BinOp} (hf : ∀ p q, sbinB op (.int .i64 (Int.ofNat p)) (.int .i64 (Int.ofNat q)) = some (.bool (f (16 * p) (16 * q)))) : BinOk op (xCmp f op) := by
  intro a b k r h
  rcases iteX_some h with ⟨h1, h⟩ | ⟨_, h⟩
  · obtain ⟨p, q, e1, e2, d1, d2⟩ := twoI_dec h1
    rw [e1, e2] at h
    exact ⟨_, h, fastB d1 d2 (mkB_dec _) (hf p q)⟩
  · exact binG_ok h
theorem beq16 (p q : Nat) : Nat.beq (16 * p) (16 * q) = decide (p = q) := by
  rw [Bool.eq_iff_iff, decide_eq_true_eq]
  exact ⟨fun h => by have := Nat.eq_of_beq_eq_true h; omega, fun h => by subst h; exact Nat.beq_refl _⟩
theorem ble16 (p q : Nat) : Nat.ble (16 * p) (16 * q) = decide (p ≤ q) := by
  rw [Bool.eq_iff_iff, decide_eq_true_eq, Nat.ble_eq]; omega
theorem xBin_ok (op : BinOp) : BinOk op (xBin op) := by
  cases op
  case add => exact xAdd_ok
  case sub => exact xSub_ok
  case mul => exact xMul_ok
  case rem => exact xRem_ok
  case quo => exact xQuo_ok
  case eql => exact xCmp_ok fun p q => by simp only [sbinB, sbin, if_true, cEq, beq16]; congr 2; rw [Bool.eq_iff_iff]; simp [Int.ofNat_eq_natCast]; omega
  case neq => exact xCmp_ok fun p q => by simp only [sbinB, sbin, if_true, cNe, beq16, notX_eq]; congr 2; rw [Bool.eq_iff_iff]; simp; try omega
  case lss => exact xCmp_ok fun p q => by simp only [sbinB, sbin, if_true, cLt, ble16, notX_eq]; congr 2; rw [Bool.eq_iff_iff]; simp; try omega
  case leq => exact xCmp_ok fun p q => by simp only [sbinB, sbin, if_true, cLe, ble16]; congr 2; rw [Bool.eq_iff_iff]; simp; try omega
  case gtr => exact xCmp_ok fun p q => by simp only [sbinB, sbin, if_true, cGt, ble16, notX_eq]; congr 2; rw [Bool.eq_iff_iff]; simp; try omega
  case geq => exact xCmp_ok fun p q => by simp only [sbinB, sbin, if_true, cGe, ble16]; congr 2; rw [Bool.eq_iff_iff]; simp; try omega
  all_goals exact fun a b k r h => binG_ok h
noncomputable section
def xNot (a : X) (k : X → RRX) : RRX := ifX (isT a 1) (k (mkB (notX (boolX a))))
def xPick (c a b : X) (k : X → RRX) : RRX := ifX (isT c 1) (iteX (boolX c) (k a) (k b))
end
theorem boolX_dec {a : X} (h : isT a 1 = true) : a.dec = .v (.bool (boolX a)) := by
  rw [X.dec1 (isT_eq h)]
  unfold boolX
  rw [show Nat.shiftRight a.n 4 = a.n / 16 from Nat.shiftRight_eq_div_pow a.n 4]
theorem xNot_ok {a : X} {k : X → RRX} {r} (h : xNot a k = some r) : ∃ y, k y = some r ∧ ∀ nm H x, Sh (.un .not x) nm H (fun t => ev t x = some a.dec) y.dec [] [] := by
  obtain ⟨h1, h⟩ := ifX_some h
  refine ⟨_, h, fun nm H x => Sh.of rfl fun t ht => ⟨True, ?_, rfl, rfl⟩⟩
  rw [boolX_dec h1] at ht
  rw [mkB_dec, notX_eq]
  simp only [eff2, eff, ht]; rfl
theorem xPick_ok {c a b : X} {k : X → RRX} {r} (h : xPick c a b k = some r) : ∃ y, k y = some r ∧ ∀ nm H x z w, Sh (.pick x z w) nm H (fun t => ev t x = some c.dec ∧ ev t z = some a.dec ∧ ev t w = some b.dec) y.dec [] [] := by
  obtain ⟨h1, h⟩ := ifX_some h
  rcases iteX_some h with ⟨h2, h⟩ | ⟨h2, h⟩
  · refine ⟨_, h, fun nm H x z w => Sh.of rfl fun t ht => ⟨True, ?_, rfl, rfl⟩⟩
    obtain ⟨g1, g2, g3⟩ := ht
    rw [boolX_dec h1, h2] at g1
    simp only [eff2, eff, g1, g2]; rfl
  · refine ⟨_, h, fun nm H x z w => Sh.of rfl fun t ht => ⟨True, ?_, rfl, rfl⟩⟩
    obtain ⟨g1, g2, g3⟩ := ht
    rw [boolX_dec h1, h2] at g1
    simp only [eff2, eff, g1, g3]; rfl
theorem xMov_ok (a : X) : ∀ nm H x, Sh (.mov x) nm H (fun t => ev t x = some a.dec) a.dec [] [] := fun nm H x => Sh.of rfl fun t ht => ⟨True, by simp only [eff2, eff, ht]; rfl, rfl, rfl⟩
noncomputable section
def cellsX (y : X) (k : List X → RRX) : RRX := iteX (isT y 2) (ifX (allX one0 y.l) (k y.l)) (ifX (one0 y) (k [y]))
def subX (cs : List X) (j sz : Nat) (k : List X → RRX) : RRX := iteX (Nat.beq (lenX cs) sz) (ifX (Nat.beq j 0) (k cs)) (ifX (Nat.ble (Nat.add j sz) (lenX cs)) (k (takeX (dropX cs j) sz)))
def xFld (ag : Bool) (off sz : Nat) (x : X) (k : X → RRX) : RRX := ifX (isT x 2) (@Bool.rec (fun _ => RRX) (nthX x.l off k) (subX x.l off sz fun c => k ⟨2, c, oZ⟩) ag)
def xExt (i : Nat) (x : X) (k : X → RRX) : RRX := ifX (isT x 5) (nthX x.l i k)
end
theorem one0_cells {x : X} (h : one0 x = true) : cellsA x.dec = some [x.dec] := by
  have h1 := one0_ok h
  unfold cellsA
  cases hd : x.dec with
  | agg cs => rw [hd] at h1; simp [AV.one] at h1
  | _ => rw [hd] at h1; simp only [h1, if_true]
theorem cellsX_some {y : X} {k : List X → RRX} {r} (h : cellsX y k = some r) : ∃ cs, cellsA y.dec = some (decL cs) ∧ k cs = some r := by
  rcases iteX_some h with ⟨h1, h⟩ | ⟨h1, h⟩
  · obtain ⟨h2, h⟩ := ifX_some h
    refine ⟨y.l, ?_, h⟩
    rw [X.dec2 (isT_eq h1)]
    simp only [cellsA, one0_L h2, if_true]
  · obtain ⟨h2, h⟩ := ifX_some h
    exact ⟨[y], by rw [one0_cells h2]; simp only [decL], h⟩
theorem subX_some {cs : List X} {j sz : Nat} {k : List X → RRX} {r} (h : subX cs j sz k = some r) : ∃ c, k c = some r ∧ j + sz ≤ (decL cs).length ∧ decL c = ((decL cs).drop j).take sz := by
  rw [subX, lenX_eq] at h
  rw [decL_len]
  rcases iteX_some h with ⟨h1, h⟩ | ⟨h1, h⟩
  · obtain ⟨h2, h⟩ := ifX_some h
    have h1 := Nat.eq_of_beq_eq_true h1
    have h2 := Nat.eq_of_beq_eq_true h2
    subst h2
    refine ⟨cs, h, by omega, ?_⟩
    rw [List.drop_zero, List.take_of_length_le (by rw [decL_len]; omega)]
  · obtain ⟨h2, h⟩ := ifX_some h
    exact ⟨_, h, Nat.le_of_ble_eq_true h2, by rw [takeX_eq, dropX_eq, decL_take, decL_drop]⟩
theorem nthX_dec {l : List X} {j : Nat} {k : X → RRX} {r} (h : nthX l j k = some r) : ∃ c, (decL l)[j]? = some c.dec ∧ k c = some r := by
  obtain ⟨c, h1, h2⟩ := nthX_some h
  exact ⟨c, by rw [decL_get, h1]; rfl, h2⟩
theorem xFld_ok {ag : Bool} {off sz : Nat} {x : X} {k : X → RRX} {r} (h : xFld ag off sz x k = some r) : ∃ y, k y = some r ∧ ∀ nm H z, Sh (.fld ag off sz z) nm H (fun t => ev t z = some x.dec) y.dec [] [] := by
  obtain ⟨h1, h⟩ := ifX_some h
  have e := X.dec2 (isT_eq h1)
  cases ag with
  | true =>
    obtain ⟨c, h, h2, h3⟩ := subX_some (k := fun c => k ⟨2, c, oZ⟩) h
    refine ⟨_, h, fun nm H z => Sh.of rfl fun t ht => ⟨True, ?_, rfl, rfl⟩⟩
    rw [e] at ht
    rw [dec_agg, h3]
    simp only [eff2, eff, ht, if_true, if_pos h2]; rfl
  | false =>
    obtain ⟨c, h2, h⟩ := nthX_dec (k := k) h
    refine ⟨_, h, fun nm H z => Sh.of rfl fun t ht => ⟨True, ?_, rfl, rfl⟩⟩
    rw [e] at ht
    simp only [eff2, eff, ht, h2]; rfl
theorem xExt_ok {i : Nat} {x : X} {k : X → RRX} {r} (h : xExt i x k = some r) : ∃ y, k y = some r ∧ ∀ nm H z, Sh (.ext i z) nm H (fun t => ev t z = some x.dec) y.dec [] [] := by
  obtain ⟨h1, h⟩ := ifX_some h
  obtain ⟨c, h2, h⟩ := nthX_dec h
  refine ⟨_, h, fun nm H z => Sh.of rfl fun t ht => ⟨True, ?_, rfl, rfl⟩⟩
  rw [X.dec5 (isT_eq h1)] at ht
  simp only [eff2, eff, ht, h2]; rfl
theorem replX_get' (H : HX) (b : Nat) (o : XO) (hb : o.b = b) : HEq' ([(b, o.decO)] ++ decH H) (decH (replX b o H)) := replX_get H b o hb
noncomputable section
def pB (p : X) : Nat := Nat.shiftRight p.n 14
def pJ (p : X) : Nat := Nat.land (Nat.shiftRight p.n 4) 1023
def rB (p : X) : Nat := Nat.shiftRight p.n 36
def rS (p : X) : Nat := Nat.land (Nat.shiftRight p.n 4) 255
def rK (p : X) : Nat := Nat.land (Nat.shiftRight p.n 12) 65535
def rJ (p : X) : Nat := Nat.land (Nat.shiftRight p.n 28) 255
def oBn (p : X) : Nat := Nat.shiftRight p.n 44
def oLn (p : X) : Nat := Nat.land (Nat.shiftRight p.n 28) 65535
def hiX (p : X) : Nat := Nat.shiftRight p.n 4
def boxX (H : HX) (b : Nat) (k : List X → RRX) : RRX := getX H b fun o => ifX (Nat.beq o.k 0) (k o.l)
def rowX (H : HX) (b : Nat) (k : XO → RRX) : RRX := getX H b fun o => ifX (Nat.beq o.k 1) (k o)
def xLd1 (p : X) (H : HX) (k : X → RRX) : RRX := iteX (isT p 7) (boxX H (pB p) fun cs => nthX cs (pJ p) k)
  (iteX (isT p 9) (nthX p.l (hiX p) k)
    (ifX (isT p 10) (rowX H (rB p) fun o => ifX (Nat.beq (rS p) o.sz) (ifX (Nat.blt (rJ p) o.sz) (nthX o.l (rK p) fun e => nthX e.l (rJ p) k)))))
def xLdA (sz : Nat) (p : X) (H : HX) (k : X → RRX) : RRX := iteX (isT p 7) (boxX H (pB p) fun cs => subX cs (pJ p) sz fun c => k ⟨2, c, oZ⟩)
  (iteX (isT p 9) (subX p.l (hiX p) sz fun c => k ⟨2, c, oZ⟩)
    (ifX (isT p 10) (rowX H (rB p) fun o => ifX (Nat.beq (rS p) o.sz) (ifX (Nat.ble (Nat.add (rJ p) sz) o.sz) (nthX o.l (rK p) fun e => subX e.l (rJ p) sz fun c => k ⟨2, c, oZ⟩)))))
def xFaddr (off : Nat) (p : X) (H : HX) (k : X → RRX) : RRX := iteX (isT p 7) (boxX H (pB p) fun _ => ifX (Nat.blt (Nat.add (pJ p) off) 1024) (k (mkI (Nat.add p.n (Nat.mul 16 off)))))
  (iteX (isT p 9) (k ⟨Nat.add p.n (Nat.mul 16 off), p.l, oZ⟩)
    (ifX (isT p 10) (rowX H (rB p) fun o => ifX (Nat.blt (Nat.add (rJ p) off) 256) (nthX o.l (rK p) fun _ => k (mkI (Nat.add p.n (Nat.mul 268435456 off)))))))
def xNilc (p : X) (H : HX) (k : X → RRX) : RRX := iteX (isT p 7) (boxX H (pB p) fun _ => k p) (ifX (isT p 9) (k p))
def xIaddr (sz : Nat) (x i : X) (H : HX) (k : X → RRX) : RRX := ifX (isT i 0) (iteX (isT x 4) (ifX (Nat.beq sz (hiX x)) (nthX x.l (hiX i) fun e => k ⟨9, e.l, oZ⟩))
  (ifX (isT x 8) (rowX H (oBn x) fun o => ifX (Nat.beq sz (rS x)) (ifX (Nat.beq sz o.sz) (ifX (Nat.blt (hiX i) (oLn x)) (ifX (Nat.blt (Nat.add (rK x) (hiX i)) 65536)
    (k (mkI (Nat.add (Nat.mul 68719476736 (oBn x)) (Nat.add (Nat.mul 4096 (Nat.add (rK x) (hiX i))) (Nat.add (Nat.mul 16 (rS x)) 10)))))))))))
def xLen (x : X) (H : HX) (k : X → RRX) : RRX := iteX (isT x 4) (k (mkI (Nat.mul 16 (lenX x.l)))) (iteX (isT x 8) (rowX H (oBn x) fun _ => k (mkI (Nat.mul 16 (oLn x)))) (ifX (isT x 6) (k (mkI 0))))
def xSt1 (p z : X) (H : HX) (k : HX → RRX) : RRX := ifX (one0 z) (iteX (isT p 7) (boxX H (pB p) fun cs => nthX cs (pJ p) fun _ => k (replX (pB p) ⟨pB p, 0, 0, 0, setX cs (pJ p) z, .dead⟩ H))
  (ifX (isT p 10) (ifX (pur0 z) (rowX H (rB p) fun o => ifX (Nat.beq (rS p) o.sz) (ifX (Nat.blt (rJ p) o.sz) (nthX o.l (rK p) fun e => nthX e.l (rJ p) fun _ => k (replX (rB p) ⟨rB p, 1, o.e, o.sz, setX o.l (rK p) ⟨2, setX e.l (rJ p) z, oZ⟩, .dead⟩ H)))))))
def xStA (sz : Nat) (p z : X) (H : HX) (k : HX → RRX) : RRX := cellsX z fun ys => ifX (Nat.beq (lenX ys) sz) (iteX (isT p 7) (boxX H (pB p) fun cs => iteX (Nat.beq (lenX cs) sz) (ifX (Nat.beq (pJ p) 0) (k (replX (pB p) ⟨pB p, 0, 0, 0, ys, .dead⟩ H))) (ifX (Nat.ble (Nat.add (pJ p) sz) (lenX cs)) (k (replX (pB p) ⟨pB p, 0, 0, 0, splX cs (pJ p) ys, .dead⟩ H))))
  (ifX (isT p 10) (ifX (purL ys) (rowX H (rB p) fun o => ifX (Nat.beq (rS p) o.sz) (ifX (Nat.ble (Nat.add (rJ p) sz) o.sz) (nthX o.l (rK p) fun e => ifX (Nat.ble (Nat.add (rJ p) sz) (lenX e.l)) (k (replX (rB p) ⟨rB p, 1, o.e, o.sz, setX o.l (rK p) ⟨2, splX e.l (rJ p) ys, oZ⟩, .dead⟩ H))))))))
end
theorem shr_eq (n k : Nat) : Nat.shiftRight n k = n / 2 ^ k := Nat.shiftRight_eq_div_pow n k
theorem land_eq (n k : Nat) : Nat.land n (2 ^ k - 1) = n % 2 ^ k := Nat.and_two_pow_sub_one_eq_mod n k
theorem pB_eq (p : X) : pB p = p.n / 16384 := shr_eq _ _
theorem pJ_eq (p : X) : pJ p = p.n / 16 % 1024 := by unfold pJ; rw [shr_eq]; exact land_eq _ 10
theorem rB_eq (p : X) : rB p = p.n / 68719476736 := shr_eq _ _
theorem rS_eq (p : X) : rS p = p.n / 16 % 256 := by unfold rS; rw [shr_eq]; exact land_eq _ 8
theorem rK_eq (p : X) : rK p = p.n / 4096 % 65536 := by unfold rK; rw [shr_eq]; exact land_eq _ 16
theorem rJ_eq (p : X) : rJ p = p.n / 268435456 % 256 := by unfold rJ; rw [shr_eq]; exact land_eq _ 8
theorem oBn_eq (p : X) : oBn p = p.n / 17592186044416 := shr_eq _ _
theorem oLn_eq (p : X) : oLn p = p.n / 268435456 % 65536 := by unfold oLn; rw [shr_eq]; exact land_eq _ 16
theorem hiX_eq (p : X) : hiX p = p.n / 16 := shr_eq _ _
theorem isT7 {p : X} (h : isT p 7 = true) : p.dec = .ptr (pB p) (pJ p) := by rw [X.dec7 (isT_eq h), pB_eq, pJ_eq]
theorem isT9 {p : X} (h : isT p 9 = true) : p.dec = .pel (decL p.l) (hiX p) := by rw [X.dec9 (isT_eq h), hiX_eq]
theorem isT10 {p : X} (h : isT p 10 = true) : p.dec = .rp (rB p) (rS p) (rK p) (rJ p) := by rw [X.dec10 (isT_eq h), rB_eq, rS_eq, rK_eq, rJ_eq]
theorem isT8 {p : X} (h : isT p 8 = true) : p.dec = .own (oBn p) (rS p) (rK p) (oLn p) := by rw [X.dec8 (isT_eq h), oBn_eq, rS_eq, rK_eq, oLn_eq]
theorem isT4 {p : X} (h : isT p 4 = true) : p.dec = .sl (hiX p) (decR p.l) := by rw [X.dec4 (isT_eq h), hiX_eq]
theorem isT0 {p : X} (h : isT p 0 = true) : p.dec = IZ (hiX p) := by rw [X.dec0 (isT_eq h), hiX_eq]
theorem boxX_some {H : HX} {b : Nat} {k : List X → RRX} {r} (h : boxX H b k = some r) : ∃ cs, get (decH H) b = some (.box (decL cs)) ∧ k cs = some r := by
  obtain ⟨p, h1, h⟩ := getX_some h
  obtain ⟨h2, h⟩ := ifX_some h
  exact ⟨p.l, by rw [h1, XO.dec0 (Nat.eq_of_beq_eq_true h2)], h⟩
theorem rowX_some {H : HX} {b : Nat} {k : XO → RRX} {r} (h : rowX H b k = some r) : ∃ p, get (decH H) b = some (.row p.e p.sz (decR p.l)) ∧ k p = some r := by
  obtain ⟨p, h1, h⟩ := getX_some h
  obtain ⟨h2, h⟩ := ifX_some h
  exact ⟨p, by rw [h1, XO.dec1 (Nat.eq_of_beq_eq_true h2)], h⟩
theorem nthR_dec {l : List X} {j : Nat} {k : X → RRX} {r} (h : nthX l j k = some r) : ∃ e, j < (decR l).length ∧ l[j]? = some e ∧ nth (decR l) j = decL e.l ∧ k e = some r := by
  obtain ⟨e, h1, h2⟩ := nthX_some h
  exact ⟨e, by rw [decR_len]; exact (List.getElem?_eq_some_iff.1 h1).1, h1, decR_nth l j e h1, h2⟩
theorem xLd1_ok {sz : Nat} {p : X} {H : HX} {k : X → RRX} {r} (h : xLd1 p H k = some r) : ∃ y, k y = some r ∧ ∀ nm x, Sh (.load false sz x) nm (decH H) (fun t => ev t x = some p.dec) y.dec [] p.dec.nms := by
  rcases iteX_some h with ⟨h1, h⟩ | ⟨_, h⟩
  · obtain ⟨cs, hg, h⟩ := boxX_some h
    obtain ⟨c, hc, h⟩ := nthX_dec h
    refine ⟨_, h, fun nm x => Sh.of rfl fun t ht => ⟨True, ?_, ?_, ?_⟩⟩ <;> rw [isT7 h1] at ht
    · simp only [eff2, eff, ht, hg, hc]; rfl
    · simp only [preB, ht]
    · simp only [rdOf, ht, isT7 h1]; rfl
  · rcases iteX_some h with ⟨h1, h⟩ | ⟨_, h⟩
    · obtain ⟨c, hc, h⟩ := nthX_dec h
      refine ⟨_, h, fun nm x => Sh.of rfl fun t ht => ⟨True, ?_, ?_, ?_⟩⟩ <;> rw [isT9 h1] at ht
      · simp only [eff2, eff, ht, hc]; rfl
      · simp only [preB, ht]
      · simp only [rdOf, ht, isT9 h1]; rfl
    · obtain ⟨h1, h⟩ := ifX_some h
      obtain ⟨o, hg, h⟩ := rowX_some h
      obtain ⟨h2, h⟩ := ifX_some h
      obtain ⟨h3, h⟩ := ifX_some h
      obtain ⟨e, h4, _, h5, h⟩ := nthR_dec h
      obtain ⟨c, hc, h⟩ := nthX_dec h
      have h2 := Nat.eq_of_beq_eq_true h2
      have h3 := blt_lt h3
      refine ⟨_, h, fun nm x => Sh.of rfl fun t ht => ⟨rK p < (decR o.l).length ∧ rJ p < o.sz, ?_, ?_, ?_⟩⟩ <;> rw [isT10 h1] at ht
      · simp only [eff2, eff, ht, hg, if_pos h2, Bool.false_eq_true, if_false, h5, hc, Option.getD_some]
      · simp only [preB, ht, hg, Bool.false_eq_true, if_false]; exact decide_eq_true ⟨h4, h3⟩
      · simp only [rdOf, ht, isT10 h1]; rfl
theorem xLdA_ok {sz : Nat} {p : X} {H : HX} {k : X → RRX} {r} (h : xLdA sz p H k = some r) : ∃ y, k y = some r ∧ ∀ nm x, Sh (.load true sz x) nm (decH H) (fun t => ev t x = some p.dec) y.dec [] p.dec.nms := by
  rcases iteX_some h with ⟨h1, h⟩ | ⟨_, h⟩
  · obtain ⟨cs, hg, h⟩ := boxX_some h
    obtain ⟨c, h, hc, he⟩ := subX_some (k := fun c => k ⟨2, c, oZ⟩) h
    refine ⟨_, h, fun nm x => Sh.of rfl fun t ht => ⟨True, ?_, ?_, ?_⟩⟩ <;> rw [isT7 h1] at ht
    · rw [dec_agg, he]; simp only [eff2, eff, ht, hg, if_true, if_pos hc]; rfl
    · simp only [preB, ht]
    · simp only [rdOf, ht, isT7 h1]; rfl
  · rcases iteX_some h with ⟨h1, h⟩ | ⟨_, h⟩
    · obtain ⟨c, h, hc, he⟩ := subX_some (k := fun c => k ⟨2, c, oZ⟩) h
      refine ⟨_, h, fun nm x => Sh.of rfl fun t ht => ⟨True, ?_, ?_, ?_⟩⟩ <;> rw [isT9 h1] at ht
      · rw [dec_agg, he]; simp only [eff2, eff, ht, if_true, if_pos hc]; rfl
      · simp only [preB, ht]
      · simp only [rdOf, ht, isT9 h1]; rfl
    · obtain ⟨h1, h⟩ := ifX_some h
      obtain ⟨o, hg, h⟩ := rowX_some h
      obtain ⟨h2, h⟩ := ifX_some h
      obtain ⟨h3, h⟩ := ifX_some h
      obtain ⟨e, h4, _, h5, h⟩ := nthR_dec h
      obtain ⟨c, h, hc, he⟩ := subX_some (k := fun c => k ⟨2, c, oZ⟩) h
      have h2 := Nat.eq_of_beq_eq_true h2
      have h3 : rJ p + sz ≤ o.sz := Nat.le_of_ble_eq_true h3
      refine ⟨_, h, fun nm x => Sh.of rfl fun t ht => ⟨rK p < (decR o.l).length ∧ rJ p + sz ≤ o.sz, ?_, ?_, ?_⟩⟩ <;> rw [isT10 h1] at ht
      · rw [dec_agg, he]; simp only [eff2, eff, ht, hg, if_pos h2, if_true, h5]
      · simp only [preB, ht, hg, if_true]; exact decide_eq_true ⟨h4, h3⟩
      · simp only [rdOf, ht, isT10 h1]; rfl
theorem xFaddr_ok {off : Nat} {p : X} {H : HX} {k : X → RRX} {r} (h : xFaddr off p H k = some r) : ∃ y, k y = some r ∧ ∀ nm x, Sh (.faddr off x) nm (decH H) (fun t => ev t x = some p.dec) y.dec [] p.dec.nms := by
  rcases iteX_some h with ⟨h1, h⟩ | ⟨_, h⟩
  · obtain ⟨cs, hg, h⟩ := boxX_some h
    obtain ⟨h2, h⟩ := ifX_some h
    have h2 : pJ p + off < 1024 := blt_lt h2
    have hj := isT_eq h1
    have e : Nat.add p.n (Nat.mul 16 off) = 16384 * pB p + 16 * (pJ p + off) + 7 := by
      show p.n + 16 * off = _
      rw [pB_eq, pJ_eq]; omega
    refine ⟨_, h, fun nm x => Sh.of rfl fun t ht => ⟨True, ?_, ?_, ?_⟩⟩ <;> rw [isT7 h1] at ht
    · rw [mkI, e, dec_ptr _ _ h2]; simp only [eff2, eff, ht, hg]; rfl
    · simp only [preB, ht]
    · simp only [rdOf, ht, isT7 h1]; rfl
  · rcases iteX_some h with ⟨h1, h⟩ | ⟨_, h⟩
    · have hj := isT_eq h1
      have e : Nat.add p.n (Nat.mul 16 off) = 16 * (hiX p + off) + 9 := by
        show p.n + 16 * off = _
        rw [hiX_eq]; omega
      refine ⟨_, h, fun nm x => Sh.of rfl fun t ht => ⟨True, ?_, ?_, ?_⟩⟩ <;> rw [isT9 h1] at ht
      · rw [e, dec_pel]; simp only [eff2, eff, ht]; rfl
      · simp only [preB, ht]
      · simp only [rdOf, ht, isT9 h1]; rfl
    · obtain ⟨h1, h⟩ := ifX_some h
      obtain ⟨o, hg, h⟩ := rowX_some h
      obtain ⟨h2, h⟩ := ifX_some h
      obtain ⟨e, h4, _, h5, h⟩ := nthR_dec h
      have h2 : rJ p + off < 256 := blt_lt h2
      have hj := isT_eq h1
      have hs : rS p < 256 := by rw [rS_eq]; omega
      have hk : rK p < 65536 := by rw [rK_eq]; omega
      have e1 : Nat.add p.n (Nat.mul 268435456 off) = 68719476736 * rB p + 268435456 * (rJ p + off) + 4096 * rK p + 16 * rS p + 10 := by
        show p.n + 268435456 * off = _
        rw [rB_eq, rJ_eq, rK_eq, rS_eq]; omega
      refine ⟨_, h, fun nm x => Sh.of rfl fun t ht => ⟨rK p < (decR o.l).length, ?_, ?_, ?_⟩⟩ <;> rw [isT10 h1] at ht
      · rw [mkI, e1, dec_rp _ _ _ _ hs hk h2]; simp only [eff2, eff, ht, hg]
      · simp only [preB, ht, hg]; exact decide_eq_true h4
      · simp only [rdOf, ht, isT10 h1]; rfl
theorem xNilc_ok {p : X} {H : HX} {k : X → RRX} {r} (h : xNilc p H k = some r) : ∃ y, k y = some r ∧ ∀ nm x, Sh (.nilc x) nm (decH H) (fun t => ev t x = some p.dec) y.dec [] p.dec.nms := by
  rcases iteX_some h with ⟨h1, h⟩ | ⟨_, h⟩
  · obtain ⟨cs, hg, h⟩ := boxX_some h
    refine ⟨_, h, fun nm x => Sh.of rfl fun t ht => ⟨True, ?_, rfl, ?_⟩⟩ <;> rw [isT7 h1] at ht <;> rw [isT7 h1]
    · simp only [eff2, eff, ht, hg]; rfl
    · simp only [rdOf, ht]; rfl
  · obtain ⟨h1, h⟩ := ifX_some h
    refine ⟨_, h, fun nm x => Sh.of rfl fun t ht => ⟨True, ?_, rfl, ?_⟩⟩ <;> rw [isT9 h1] at ht <;> rw [isT9 h1]
    · simp only [eff2, eff, ht]; rfl
    · simp only [rdOf, ht]; rfl
theorem xIaddr_ok {sz : Nat} {x i : X} {H : HX} {k : X → RRX} {r} (h : xIaddr sz x i H k = some r) : ∃ y, k y = some r ∧ ∀ nm z w, Sh (.iaddr sz z w) nm (decH H) (fun t => ev t z = some x.dec ∧ ev t w = some i.dec) y.dec [] x.dec.nms := by
  obtain ⟨h0, h⟩ := ifX_some h
  rcases iteX_some h with ⟨h1, h⟩ | ⟨_, h⟩
  · obtain ⟨h2, h⟩ := ifX_some h
    obtain ⟨e, h4, _, h5, h⟩ := nthR_dec h
    have h2 := Nat.eq_of_beq_eq_true h2
    refine ⟨_, h, fun nm z w => Sh.of rfl fun t ht => ⟨(0 : Int) ≤ Int.ofNat (hiX i) ∧ Int.ofNat (hiX i) < (decR x.l).length, ?_, ?_, ?_⟩⟩ <;> obtain ⟨g1, g2⟩ := ht <;> rw [isT4 h1] at g1 <;> rw [isT0 h0] at g2
    · rw [show (9 : Nat) = 16 * 0 + 9 from rfl, dec_pel, ← h5]
      simp only [eff2, eff, g1, g2, if_pos h2]; rfl
    · simp only [preB, g1, g2]; exact decide_eq_true ⟨by simp, by simp only [Int.ofNat_eq_natCast]; omega⟩
    · simp only [rdOf, g1, isT4 h1]; rfl
  · obtain ⟨h1, h⟩ := ifX_some h
    obtain ⟨o, hg, h⟩ := rowX_some h
    obtain ⟨h2, h⟩ := ifX_some h
    obtain ⟨h3, h⟩ := ifX_some h
    obtain ⟨h4, h⟩ := ifX_some h
    obtain ⟨h5, h⟩ := ifX_some h
    have h2 := Nat.eq_of_beq_eq_true h2
    have h3 := Nat.eq_of_beq_eq_true h3
    have h4 := blt_lt h4
    have h5 : rK x + hiX i < 65536 := blt_lt h5
    have hs : rS x < 256 := by rw [rS_eq]; omega
    have e1 : Nat.add (Nat.mul 68719476736 (oBn x)) (Nat.add (Nat.mul 4096 (Nat.add (rK x) (hiX i))) (Nat.add (Nat.mul 16 (rS x)) 10)) = 68719476736 * oBn x + 268435456 * 0 + 4096 * (rK x + hiX i) + 16 * rS x + 10 := by
      show 68719476736 * oBn x + (4096 * (rK x + hiX i) + (16 * rS x + 10)) = _
      omega
    refine ⟨_, h, fun nm z w => Sh.of rfl fun t ht => ⟨(0 : Int) ≤ Int.ofNat (hiX i) ∧ Int.ofNat (hiX i) < oLn x, ?_, ?_, ?_⟩⟩ <;> obtain ⟨g1, g2⟩ := ht <;> rw [isT8 h1] at g1 <;> rw [isT0 h0] at g2
    · rw [mkI, e1, dec_rp _ _ _ _ hs h5 (by omega)]
      simp only [eff2, eff, g1, g2, hg]
      rw [if_pos ⟨h2, h3⟩]; rfl
    · simp only [preB, g1, g2]; exact decide_eq_true ⟨by simp, by simp only [Int.ofNat_eq_natCast]; omega⟩
    · simp only [rdOf, g1, isT8 h1]; rfl
theorem xLen_ok {x : X} {H : HX} {k : X → RRX} {r} (h : xLen x H k = some r) : ∃ y, k y = some r ∧ ∀ nm z, Sh (.len z) nm (decH H) (fun t => ev t z = some x.dec) y.dec [] x.dec.nms := by
  rcases iteX_some h with ⟨h1, h⟩ | ⟨_, h⟩
  · refine ⟨_, h, fun nm z => Sh.of rfl fun t ht => ⟨True, ?_, rfl, ?_⟩⟩ <;> rw [isT4 h1] at ht
    · rw [show Nat.mul 16 (lenX x.l) = 16 * lenX x.l from rfl, mkI_dec, lenX_eq]; simp only [eff2, eff, ht, decR_len]; rfl
    · simp only [rdOf, ht, isT4 h1]; rfl
  · rcases iteX_some h with ⟨h1, h⟩ | ⟨_, h⟩
    · obtain ⟨o, hg, h⟩ := rowX_some h
      refine ⟨_, h, fun nm z => Sh.of rfl fun t ht => ⟨True, ?_, rfl, ?_⟩⟩ <;> rw [isT8 h1] at ht
      · rw [show Nat.mul 16 (oLn x) = 16 * oLn x from rfl, mkI_dec]; simp only [eff2, eff, ht, hg]; rfl
      · simp only [rdOf, ht, isT8 h1]; rfl
    · obtain ⟨h1, h⟩ := ifX_some h
      refine ⟨_, h, fun nm z => Sh.of rfl fun t ht => ⟨True, ?_, rfl, ?_⟩⟩ <;> rw [X.dec6 (isT_eq h1)] at ht
      · rw [show (0 : Nat) = 16 * 0 from rfl, mkI_dec]; simp only [eff2, eff, ht]; rfl
      · simp only [rdOf, ht, X.dec6 (isT_eq h1)]; rfl
theorem splice1 (cs : List AV) (j : Nat) (y : AV) (h : j < cs.length) : splice cs j [y] = cs.set j y := by
  rw [List.set_eq_take_append_cons_drop, if_pos h]
  simp [splice]
theorem xSt1_ok {p z : X} {H : HX} {k : HX → RRX} {r} (h : xSt1 p z H k = some r) : ∃ H' u, k H' = some r ∧ HEq' (u ++ decH H) (decH H') ∧ ∀ nm x y, Sh (.store 1 x y) nm (decH H) (fun t => ev t x = some p.dec ∧ ev t y = some z.dec) (.v undef) u p.dec.nms := by
  obtain ⟨h0, h⟩ := ifX_some h
  have hc := one0_cells h0
  rcases iteX_some h with ⟨h1, h⟩ | ⟨_, h⟩
  · obtain ⟨cs, hg, h⟩ := boxX_some h
    obtain ⟨c, hj, h⟩ := nthX_some h
    have hlt : pJ p < cs.length := (List.getElem?_eq_some_iff.1 hj).1
    refine ⟨_, _, h, replX_get' H _ _ rfl, fun nm x y => Sh.of rfl fun t ht => ⟨True, ?_, ?_, ?_⟩⟩ <;> obtain ⟨g1, g2⟩ := ht <;> rw [isT7 h1] at g1
    · rw [XO.dec0 rfl]
      simp only [eff2, eff, g1, g2, hg, hc, List.length_cons, List.length_nil]
      rw [if_pos ⟨trivial, by rw [decL_len]; omega⟩, splice1 _ _ _ (by rw [decL_len]; exact hlt), setX_eq, decL_set]
    · simp only [preB, g1]
    · simp only [rdOf, g1, isT7 h1]; rfl
  · obtain ⟨h1, h⟩ := ifX_some h
    obtain ⟨hp, h⟩ := ifX_some h
    obtain ⟨o, hg, h⟩ := rowX_some h
    obtain ⟨h2, h⟩ := ifX_some h
    obtain ⟨h3, h⟩ := ifX_some h
    obtain ⟨e, h4, h5, h6, h⟩ := nthR_dec h
    obtain ⟨c, hj, h⟩ := nthX_some h
    have h2 := Nat.eq_of_beq_eq_true h2
    have h3 := blt_lt h3
    have hlt : rJ p < e.l.length := (List.getElem?_eq_some_iff.1 hj).1
    refine ⟨_, _, h, replX_get' H _ _ rfl, fun nm x y => Sh.of rfl fun t ht => ⟨rK p < (decR o.l).length ∧ rJ p + 1 ≤ o.sz, ?_, ?_, ?_⟩⟩ <;> obtain ⟨g1, g2⟩ := ht <;> rw [isT10 h1] at g1
    · rw [XO.dec1 rfl]
      simp only [eff2, eff, g1, g2, hg, hc, List.length_cons, List.length_nil]
      rw [if_pos ⟨h2, trivial, by simp only [pureL, pur0_ok hp, Bool.and_self]⟩, h6, splice1 _ _ _ (by rw [decL_len]; exact hlt), setX_eq, setX_eq, decR_set, decL_set]
    · simp only [preB, g1, hg]; exact decide_eq_true ⟨h4, h3⟩
    · simp only [rdOf, g1, isT10 h1]; rfl
theorem xStA_ok {sz : Nat} {p z : X} {H : HX} {k : HX → RRX} {r} (h : xStA sz p z H k = some r) : ∃ H' u, k H' = some r ∧ HEq' (u ++ decH H) (decH H') ∧ ∀ nm x y, Sh (.store sz x y) nm (decH H) (fun t => ev t x = some p.dec ∧ ev t y = some z.dec) (.v undef) u p.dec.nms := by
  obtain ⟨ys, hc, h⟩ := cellsX_some h
  obtain ⟨hl, h⟩ := ifX_some h
  rw [lenX_eq] at hl
  have hl := Nat.eq_of_beq_eq_true hl
  have hl' : (decL ys).length = sz := by rw [decL_len]; exact hl
  rcases iteX_some h with ⟨h1, h⟩ | ⟨_, h⟩
  · obtain ⟨cs, hg, h⟩ := boxX_some h
    rw [lenX_eq] at h
    rcases iteX_some h with ⟨h2, h⟩ | ⟨_, h⟩
    · obtain ⟨h3, h⟩ := ifX_some h
      have h2 := Nat.eq_of_beq_eq_true h2
      have h3 := Nat.eq_of_beq_eq_true h3
      refine ⟨_, _, h, replX_get' H _ _ rfl, fun nm x y => Sh.of rfl fun t ht => ⟨True, ?_, ?_, ?_⟩⟩ <;> obtain ⟨g1, g2⟩ := ht <;> rw [isT7 h1] at g1
      · rw [XO.dec0 rfl]
        simp only [eff2, eff, g1, g2, hg, hc]
        rw [if_pos ⟨hl', by rw [decL_len]; omega⟩, h3]
        have : splice (decL cs) 0 (decL ys) = decL ys := by
          simp only [splice, List.take_zero, List.nil_append, Nat.zero_add]
          rw [List.drop_of_length_le (by rw [decL_len, hl']; omega), List.append_nil]
        rw [this]
      · simp only [preB, g1]
      · simp only [rdOf, g1, isT7 h1]; rfl
    · obtain ⟨h3, h⟩ := ifX_some h
      have h3 : pJ p + sz ≤ cs.length := Nat.le_of_ble_eq_true h3
      refine ⟨_, _, h, replX_get' H _ _ rfl, fun nm x y => Sh.of rfl fun t ht => ⟨True, ?_, ?_, ?_⟩⟩ <;> obtain ⟨g1, g2⟩ := ht <;> rw [isT7 h1] at g1
      · rw [XO.dec0 rfl]
        simp only [eff2, eff, g1, g2, hg, hc]
        rw [if_pos ⟨hl', by rw [decL_len]; exact h3⟩, splX_dec (by omega)]
      · simp only [preB, g1]
      · simp only [rdOf, g1, isT7 h1]; rfl
  · obtain ⟨h1, h⟩ := ifX_some h
    obtain ⟨hp, h⟩ := ifX_some h
    obtain ⟨o, hg, h⟩ := rowX_some h
    obtain ⟨h2, h⟩ := ifX_some h
    obtain ⟨h3, h⟩ := ifX_some h
    obtain ⟨e, h4, h5, h6, h⟩ := nthR_dec h
    obtain ⟨h7, h⟩ := ifX_some h
    rw [lenX_eq] at h7
    have h2 := Nat.eq_of_beq_eq_true h2
    have h3 : rJ p + sz ≤ o.sz := Nat.le_of_ble_eq_true h3
    have h7 : rJ p + sz ≤ e.l.length := Nat.le_of_ble_eq_true h7
    refine ⟨_, _, h, replX_get' H _ _ rfl, fun nm x y => Sh.of rfl fun t ht => ⟨rK p < (decR o.l).length ∧ rJ p + sz ≤ o.sz, ?_, ?_, ?_⟩⟩ <;> obtain ⟨g1, g2⟩ := ht <;> rw [isT10 h1] at g1
    · rw [XO.dec1 rfl]
      simp only [eff2, eff, g1, g2, hg, hc]
      rw [if_pos ⟨h2, hl', purL_ok hp⟩, h6, setX_eq, decR_set, splX_dec (by omega)]
    · simp only [preB, g1, hg]; exact decide_eq_true ⟨h4, h3⟩
    · simp only [rdOf, g1, isT10 h1]; rfl
end Go.Eng

namespace Go.Eng
open Go
noncomputable section
def mkP (nm : Nat) : X := ⟨Nat.add (Nat.mul 16384 nm) 7, [], oZ⟩
def mkO (b sz off len : Nat) : X := ⟨Nat.add (Nat.mul 17592186044416 b) (Nat.add (Nat.mul 268435456 len) (Nat.add (Nat.mul 4096 off) (Nat.add (Nat.mul 16 sz) 8))), [], oZ⟩
def xAlloc (nm : Nat) (zs : List X) (H : HX) (k : X → HX → RRX) : RRX := k (mkP nm) (⟨nm, 0, 0, 0, zs, .dead⟩ :: H)
def xBox (nm : Nat) (x : X) (H : HX) (k : X → HX → RRX) : RRX := cellsX x fun ys => k (mkP nm) (⟨nm, 0, 0, 0, ys, .dead⟩ :: H)
def part1 (off : Nat) (x : X) (cs : List X) (k : List X → RRX) : RRX := ifX (one0 x) (k (setX cs off x))
def partX (off sz : Nat) (x : X) (cs : List X) (k : List X → RRX) : RRX := cellsX x fun ys => ifX (Nat.beq (lenX ys) sz) (k (splX cs off ys))
def xRow (nm : Nat) (e : TypeId) (sz len : Nat) (xs : List X) (H : HX) (k : X → HX → RRX) : RRX := ifX (Nat.blt len 65536) (ifX (Nat.blt sz 256) (k (mkO nm sz 0 len) (⟨nm, 1, e, sz, xs, .dead⟩ :: H)))
def elX (sz : Nat) (x : X) (k : X → RRX) : RRX := cellsX x fun ys => ifX (Nat.beq (lenX ys) sz) (ifX (allX pur0 ys) (k ⟨2, ys, oZ⟩))
def xMks (nm : Nat) (e : TypeId) (sz bytes : Nat) (z : X) (l c : X) (H : HX) (k : X → HX → RRX) : RRX := ifX (isT l 0) (ifX (isT c 0) (ifX (Nat.beq l.n c.n) (ifX (Nat.ble (Nat.mul (hiX l) bytes) 140737488355328) (xRow nm e sz (hiX l) (repX (hiX l) z) H k))))
def conX (sz : Nat) (x : X) (H : HX) (k : List X → RRX) : RRX := iteX (isT x 6) (k []) (iteX (isT x 4) (ifX (Nat.beq sz (hiX x)) (k x.l))
  (ifX (isT x 8) (rowX H (oBn x) fun o => ifX (Nat.beq sz (rS x)) (ifX (Nat.beq sz o.sz) (ifX (Nat.ble (Nat.add (rK x) (oLn x)) (lenX o.l)) (k (takeX (dropX o.l (rK x)) (oLn x))))))))
def clpX (s : X) (k : Nat → List (List AV) → RRX) : RRX := match s.o with
  | .fn 2000000 [.sl sz xs] => k sz xs
  | _ => none
def encRX (xs : List (List AV)) : List X := @List.rec (List AV) (fun _ => List X) [] (fun e _ ih => ⟨2, encL e, oZ⟩ :: ih) xs
def xApp (nm : Nat) (e : TypeId) (sz bytes : Nat) (s x : X) (H : HX) (k : X → HX → RRX) : RRX := conX sz x H fun ys => iteX (isT s 6)
    (ifX (Nat.ble (Nat.mul (lenX ys) bytes) 140737488355328) (xRow nm e sz (lenX ys) ys H k))
    (iteX (isT s 15) (clpX s fun sz' xs => ifX (Nat.beq sz sz') (iteX (Nat.blt 0 (lenX ys)) (ifX (Nat.ble (Nat.mul (Nat.add (lenX (encRX xs)) (lenX ys)) bytes) 140737488355328) (xRow nm e sz (Nat.add (lenX (encRX xs)) (lenX ys)) (appX (encRX xs) ys) H k)) (k ⟨Nat.add (Nat.mul 16 sz) 4, encRX xs, oZ⟩ H)))
    (ifX (isT s 8) (rowX H (oBn s) fun o => ifX (Nat.beq sz (rS s)) (ifX (Nat.beq sz o.sz) (ifX (Nat.beq e o.e)
      (iteX (Nat.ble (Nat.add (Nat.add (rK s) (oLn s)) (lenX ys)) (lenX o.l))
        (ifX (Nat.blt (Nat.add (oLn s) (lenX ys)) 65536) (k (mkO (oBn s) (rS s) (rK s) (Nat.add (oLn s) (lenX ys))) (replX (oBn s) ⟨oBn s, 1, o.e, o.sz, splX o.l (Nat.add (rK s) (oLn s)) ys, .dead⟩ H)))
      (ifX (Nat.ble (Nat.mul (Nat.add (oLn s) (lenX ys)) bytes) 140737488355328) (ifX (Nat.ble (Nat.add (rK s) (oLn s)) (lenX o.l))
      (ifX (Nat.blt (oBn s) nm) (xRow nm e sz (Nat.add (oLn s) (lenX ys)) (appX (takeX (dropX o.l (rK s)) (oLn s)) ys) (replX (oBn s) ⟨oBn s, 2, 0, 0, [], .dead⟩ H) k))))))))))
def moreX (sz off r : Nat) (o : XO) : Bool := @Bool.rec (fun _ => Bool) false (@Bool.rec (fun _ => Bool) false (@Bool.rec (fun _ => Bool) false (Nat.blt r 65536) (Nat.ble (Nat.add off r) (lenX o.l))) (Nat.beq sz o.sz)) (Nat.blt 0 sz)
def xSlice (sz : Nat) (x : X) (lo : Nat) (hi : Option Nat) (H : HX) (k : X → RRX) : RRX := iteX (isT x 4)
    (ifX (Nat.beq sz (hiX x)) (@Option.rec Nat (fun _ => RRX) (ifX (Nat.ble lo (lenX x.l)) (k ⟨x.n, dropX x.l lo, oZ⟩)) (fun r => ifX (Nat.ble lo r) (ifX (Nat.ble r (lenX x.l)) (k ⟨x.n, dropX (takeX x.l r) lo, oZ⟩))) hi))
    (iteX (isT x 8) (rowX H (oBn x) fun o => ifX (Nat.beq sz (rS x)) (ifX (Nat.ble lo (@Option.rec Nat (fun _ => Nat) (oLn x) (fun r => r) hi)) (ifX (@Bool.rec (fun _ => Bool) (moreX sz (rK x) (@Option.rec Nat (fun _ => Nat) (oLn x) (fun r => r) hi) o) true (Nat.ble (@Option.rec Nat (fun _ => Nat) (oLn x) (fun r => r) hi) (oLn x))) (ifX (Nat.blt (Nat.add (rK x) lo) 65536)
      (k (mkO (oBn x) (rS x) (Nat.add (rK x) lo) (Nat.sub (@Option.rec Nat (fun _ => Nat) (oLn x) (fun r => r) hi) lo)))))))
    (ifX (isT x 6) (ifX (Nat.beq lo 0) (ifX (Nat.beq (@Option.rec Nat (fun _ => Nat) 0 (fun r => r) hi) 0) (k x)))))
def xCopy (sz : Nat) (d x : X) (H : HX) (k : X → HX → RRX) : RRX := conX sz x H fun ys => ifX (isT d 8) (rowX H (oBn d) fun o => ifX (Nat.beq sz (rS d)) (ifX (Nat.beq sz o.sz) (ifX (Nat.ble (Nat.add (rK d) (oLn d)) (lenX o.l))
    (k ⟨Nat.mul 16 (lenX (takeX ys (oLn d))), [], oZ⟩ (replX (oBn d) ⟨oBn d, 1, o.e, o.sz, splX o.l (rK d) (takeX ys (oLn d)), .dead⟩ H)))))
def xIsnil (neg : Bool) (x : X) (k : X → RRX) : RRX := iteX (isT x 6) (k (mkB (notX neg))) (ifX (isT x 4) (@List.rec X (fun _ => RRX) none (fun _ _ _ => k (mkB neg)) x.l))
def xEqs (neg : Bool) (ks : List Nat) (x y : X) (k : X → RRX) : RRX := ifX (isT x 2) (ifX (isT y 2) (@Option.rec Bool (fun _ => RRX) none (fun c => k (mkB (@Bool.rec (fun _ => Bool) c (notX c) neg))) (eqCellsB ks (decL x.l) (decL y.l))))
def xConv (q : IntKind) (x : X) (k : X → RRX) : RRX := match x.dec with
  | .v (.int _ n) => k (encV (.int q (q.wrap n)))
  | _ => none
def xGen (op : SOp) (ts : List (Nat × X)) (n nm : Nat) (H : HX) (k : X → HX → RRX) : RRX := match eff2 nm (ts.map fun p => (p.1, p.2.dec)) (decH H) op with
  | some e => bif preB (ts.map fun p => (p.1, p.2.dec)) (decH H) op then k (enc e.val) (upX n (encH e.upd) H) else none
  | none => none
end
theorem mkP_dec (nm : Nat) : (mkP nm).dec = .ptr nm 0 := by
  have e : mkP nm = ⟨16384 * nm + 16 * 0 + 7, [], oZ⟩ := rfl
  rw [e]; exact dec_ptr nm 0 (by omega) _ _
theorem mkO_dec {b sz off len : Nat} (h1 : sz < 256) (h2 : off < 65536) (h3 : len < 65536) : (mkO b sz off len).dec = .own b sz off len := by
  have e : mkO b sz off len = ⟨17592186044416 * b + 268435456 * len + 4096 * off + 16 * sz + 8, [], oZ⟩ := by
    show (⟨17592186044416 * b + (268435456 * len + (4096 * off + (16 * sz + 8))), [], oZ⟩ : X) = _
    congr 1; omega
  rw [e]; exact dec_own b sz off len h1 h2 h3 _ _
theorem xAlloc_ok {nm : Nat} {zs : List X} {H : HX} {k : X → HX → RRX} {r} (h : xAlloc nm zs H k = some r) {vs : List Value} (hz : decL zs = vs.map .v) : ∃ y H' u, k y H' = some r ∧ HEq' (u ++ decH H) (decH H') ∧ Sh (.alloc vs) nm (decH H) (fun _ => True) y.dec u [] := by
  refine ⟨_, _, [(nm, .box (vs.map .v))], h, fun k => ?_, Sh.of rfl fun t ht => ⟨True, ?_, rfl, rfl⟩⟩
  · simp only [decH, XO.dec0, hz]; rfl
  · rw [mkP_dec]; simp only [eff2, eff]
theorem xBox_ok {nm : Nat} {x : X} {H : HX} {k : X → HX → RRX} {r} (h : xBox nm x H k = some r) : ∃ y H' u, k y H' = some r ∧ HEq' (u ++ decH H) (decH H') ∧ ∀ z, Sh (.box z) nm (decH H) (fun t => ev t z = some x.dec) y.dec u [] := by
  obtain ⟨ys, hc, h⟩ := cellsX_some h
  refine ⟨_, _, [(nm, .box (decL ys))], h, fun k => ?_, fun z => Sh.of rfl fun t ht => ⟨True, ?_, rfl, rfl⟩⟩
  · simp only [decH, XO.dec0]; rfl
  · rw [mkP_dec]; simp only [eff2, eff, ht, hc]
theorem part1_some {off : Nat} {x : X} {cs : List X} {k : List X → RRX} {r} (h : part1 off x cs k = some r) (hl : off + 1 ≤ cs.length) : ∃ cs' ys, k cs' = some r ∧ cellsA x.dec = some ys ∧ ys.length = 1 ∧ decL cs' = splice (decL cs) off ys ∧ cs'.length = cs.length := by
  obtain ⟨h1, h⟩ := ifX_some h
  refine ⟨_, [x.dec], h, one0_cells h1, rfl, ?_, ?_⟩
  · rw [setX_eq, decL_set, splice1 _ _ _ (by rw [decL_len]; omega)]
  · rw [setX_eq, List.length_set]
theorem partX_some {off sz : Nat} {x : X} {cs : List X} {k : List X → RRX} {r} (h : partX off sz x cs k = some r) (hl : off + sz ≤ cs.length) : ∃ cs' ys, k cs' = some r ∧ cellsA x.dec = some ys ∧ ys.length = sz ∧ decL cs' = splice (decL cs) off ys ∧ cs'.length = cs.length := by
  obtain ⟨ys, hc, h⟩ := cellsX_some h
  obtain ⟨h1, h⟩ := ifX_some h
  rw [lenX_eq] at h1
  have h1 := Nat.eq_of_beq_eq_true h1
  refine ⟨_, _, h, hc, by rw [decL_len]; exact h1, splX_dec (by omega), ?_⟩
  rw [splX_eq _ _ _ (by omega)]
  simp only [List.length_append, List.length_take, List.length_drop]; omega
theorem xRow_some {nm : Nat} {e : TypeId} {sz len : Nat} {xs : List X} {H : HX} {k : X → HX → RRX} {r} (h : xRow nm e sz len xs H k = some r) : ∃ y H', k y H' = some r ∧ y.dec = .own nm sz 0 len ∧ decH H' = (nm, .row e sz (decR xs)) :: decH H ∧ len < 65536 := by
  obtain ⟨h1, h⟩ := ifX_some h
  obtain ⟨h2, h⟩ := ifX_some h
  exact ⟨_, _, h, mkO_dec (blt_lt h2) (by omega) (blt_lt h1), rfl, blt_lt h1⟩
theorem elX_some {sz : Nat} {x : X} {k : X → RRX} {r} (h : elX sz x k = some r) : ∃ y, k y = some r ∧ cellsA x.dec = some (decL y.l) ∧ (decL y.l).length = sz ∧ pureL (decL y.l) = true := by
  obtain ⟨ys, hc, h⟩ := cellsX_some h
  obtain ⟨h1, h⟩ := ifX_some h
  obtain ⟨h2, h⟩ := ifX_some h
  rw [lenX_eq] at h1
  exact ⟨_, h, hc, by rw [decL_len]; exact Nat.eq_of_beq_eq_true h1, allpur_ok (fun _ => pur0_ok) h2⟩
theorem maxLen_ge : 65536 ≤ maxLen := by decide
theorem xMks_ok {nm : Nat} {e : TypeId} {sz bytes : Nat} {z l c : X} {H : HX} {k : X → HX → RRX} {r} (h : xMks nm e sz bytes z l c H k = some r) {zs : List Value} (hz : decL z.l = zs.map .v) :
    ∃ y H' u, k y H' = some r ∧ HEq' (u ++ decH H) (decH H') ∧ ∀ a b, Sh (.mkslice e sz bytes zs a b) nm (decH H) (fun t => ev t a = some l.dec ∧ ev t b = some c.dec) y.dec u [] := by
  obtain ⟨h1, h⟩ := ifX_some h
  obtain ⟨h2, h⟩ := ifX_some h
  obtain ⟨h3, h⟩ := ifX_some h
  obtain ⟨h4, h⟩ := ifX_some h
  obtain ⟨y, H', h, hy, hH, hl⟩ := xRow_some h
  have h3 := Nat.eq_of_beq_eq_true h3
  have h4 : hiX l * bytes ≤ 140737488355328 := Nat.le_of_ble_eq_true h4
  have e2 : hiX c = hiX l := by rw [hiX_eq, hiX_eq, h3]
  refine ⟨y, H', [(nm, .row e sz (decR (repX (hiX l) z)))], h, fun k => by rw [hH]; rfl, fun a b => Sh.of rfl fun t ht => ⟨(0 : Int) ≤ Int.ofNat (hiX l) ∧ Int.ofNat (hiX l) = Int.ofNat (hiX l) ∧ Int.ofNat (hiX l) * bytes ≤ 140737488355328 ∧ Int.ofNat (hiX l) ≤ 9223372036854775807, ?_, ?_, rfl⟩⟩ <;> obtain ⟨g1, g2⟩ := ht <;> rw [isT0 h1] at g1 <;> rw [isT0 h2, e2] at g2
  · rw [hy, repX_eq]
    simp only [eff2, eff, g1, g2]
    simp only [decR_map, List.map_replicate, hz]; rfl
  · simp only [preB, g1, g2]
    refine decide_eq_true ⟨by simp only [Int.ofNat_eq_natCast]; omega, trivial, ?_, ?_⟩
    · simp only [Int.ofNat_eq_natCast]; have := Int.ofNat_le.2 h4; rw [Int.natCast_mul] at this; exact this
    · simp only [Int.ofNat_eq_natCast]; omega
theorem conX_some {sz : Nat} {x : X} {H : HX} {k : List X → RRX} {r} (h : conX sz x H k = some r) : ∃ ys, k ys = some r ∧ contentsB (decH H) sz (some x.dec) = some (true, decR ys) := by
  rcases iteX_some h with ⟨h1, h⟩ | ⟨_, h⟩
  · exact ⟨_, h, by rw [X.dec6 (isT_eq h1)]; simp only [contentsB, decR]⟩
  · rcases iteX_some h with ⟨h1, h⟩ | ⟨_, h⟩
    · obtain ⟨h2, h⟩ := ifX_some h
      exact ⟨_, h, by rw [isT4 h1]; simp only [contentsB, if_pos (Nat.eq_of_beq_eq_true h2)]⟩
    · obtain ⟨h1, h⟩ := ifX_some h
      obtain ⟨o, hg, h⟩ := rowX_some h
      obtain ⟨h2, h⟩ := ifX_some h
      obtain ⟨h3, h⟩ := ifX_some h
      obtain ⟨h4, h⟩ := ifX_some h
      rw [lenX_eq] at h4
      have h4 : rK x + oLn x ≤ o.l.length := Nat.le_of_ble_eq_true h4
      refine ⟨_, h, ?_⟩
      rw [isT8 h1]
      simp only [contentsB, hg]
      rw [if_pos ⟨Nat.eq_of_beq_eq_true h2, Nat.eq_of_beq_eq_true h3⟩, takeX_eq, dropX_eq, decR_take, decR_drop, decide_eq_true (by rw [decR_len]; exact h4)]
theorem contentsN_of {h : Hp} {sz : Nat} {x : Option AV} {ys : List (List AV)} (e : contentsB h sz x = some (true, ys)) : contentsN h sz x = some (true = true, ys) := by rw [contents_eq, e]; rfl
theorem clpX_some {s : X} {k : Nat → List (List AV) → RRX} {r} (h : clpX s k = some r) : ∃ sz xs, s.o = .fn 2000000 [.sl sz xs] ∧ k sz xs = some r := by
  unfold clpX at h
  split at h
  · rename_i sz xs ho; exact ⟨sz, xs, ho, h⟩
  · cases h
theorem encRX_eq : ∀ xs : List (List AV), encRX xs = encR xs
  | [] => by rw [encR]; rfl
  | e :: l => by
    have h : encRX (e :: l) = ⟨2, encL e, oZ⟩ :: encRX l := rfl
    rw [h, encRX_eq l, encR]
theorem xApp_ok {nm : Nat} {e : TypeId} {sz bytes : Nat} {s x : X} {H : HX} {k : X → HX → RRX} {r} (h : xApp nm e sz bytes s x H k = some r) :
    ∃ y H' u, k y H' = some r ∧ HEq' (u ++ decH H) (decH H') ∧ ∀ zs a b, Sh (.app e sz bytes zs a b) nm (decH H) (fun t => ev t a = some s.dec ∧ ev t b = some x.dec) y.dec u (s.dec.nms ++ x.dec.nms) := by
  obtain ⟨ys, h, hc⟩ := conX_some h
  have hn := contentsN_of hc
  rcases iteX_some h with ⟨h1, h⟩ | ⟨_, h⟩
  · obtain ⟨h2, h⟩ := ifX_some h
    obtain ⟨y, H', h, hy, hH, hl⟩ := xRow_some h
    rw [lenX_eq] at h2 hl hy
    have h2 : ys.length * bytes ≤ 140737488355328 := Nat.le_of_ble_eq_true h2
    have hm := maxLen_ge
    refine ⟨y, H', [(nm, .row e sz (decR ys))], h, fun k => by rw [hH]; rfl, fun zs a b => Sh.of rfl fun t ht => ⟨true = true ∧ (decR ys).length * bytes ≤ 140737488355328 ∧ (decR ys).length ≤ maxLen, ?_, ?_, ?_⟩⟩ <;> obtain ⟨g1, g2⟩ := ht <;> rw [X.dec6 (isT_eq h1)] at g1
    · rw [hy]; simp only [eff2, eff, g1, g2, hn, decR_len]
    · simp only [preB, g1, g2, hc, Bool.true_and]; exact decide_eq_true ⟨by rw [decR_len]; exact h2, by rw [decR_len]; omega⟩
    · simp only [rdOf, g1, g2, X.dec6 (isT_eq h1)]; rfl
  · rcases iteX_some h with ⟨h1, h⟩ | ⟨_, h⟩
    · obtain ⟨sz', xs, hso, h⟩ := clpX_some h
      have hsd : s.dec = .fn 2000000 [.sl sz' xs] := by rw [X.decE (.inr (by rw [isT_eq h1]; omega)), hso]
      obtain ⟨h2, h⟩ := ifX_some h
      have h2 := Nat.eq_of_beq_eq_true h2
      have el : lenX (encRX xs) = xs.length := by rw [encRX_eq, lenX_eq, ← decR_len, encR_dec]
      rcases iteX_some h with ⟨h3, h⟩ | ⟨h3, h⟩
      · obtain ⟨h4, h⟩ := ifX_some h
        obtain ⟨y, H', h, hy, hH, hl⟩ := xRow_some h
        rw [el, lenX_eq] at h4 hy hl
        rw [lenX_eq] at h3
        have h3 : 0 < (decR ys).length := by rw [decR_len]; exact blt_lt h3
        have h4 : (xs.length + ys.length) * bytes ≤ 140737488355328 := Nat.le_of_ble_eq_true h4
        have hl : xs.length + ys.length < 65536 := hl
        have hy : y.dec = .own nm sz 0 (xs.length + ys.length) := hy
        have hm := maxLen_ge
        refine ⟨y, H', [(nm, .row e sz (xs ++ decR ys))], h, fun k => by rw [hH, appX_eq, decR_app, encRX_eq, encR_dec]; rfl, fun zs a b => Sh.of rfl fun t ht => ⟨true = true ∧ (xs.length + (decR ys).length) * bytes ≤ 140737488355328 ∧ xs.length + (decR ys).length ≤ maxLen, ?_, ?_, ?_⟩⟩ <;> obtain ⟨g1, g2⟩ := ht <;> rw [hsd] at g1
        · rw [hy]; simp only [eff2, eff, g1, g2, hn]
          rw [if_pos h2, if_pos h3]
          simp only [decR_len]
        · simp only [preB, g1, g2, hc]
          rw [if_pos h3]
          simp only [Bool.true_and]; exact decide_eq_true ⟨by rw [decR_len]; exact h4, by rw [decR_len]; omega⟩
        · simp only [rdOf, g1, g2, hsd]; rfl
      · have h3 : ¬ 0 < (decR ys).length := by
          rw [decR_len]
          intro q
          rw [lenX_eq, show Nat.blt 0 ys.length = true from Nat.ble_eq_true_of_le q] at h3
          cases h3
        refine ⟨_, _, [], h, fun k => rfl, fun zs a b => Sh.of rfl fun t ht => ⟨true = true, ?_, ?_, ?_⟩⟩ <;> obtain ⟨g1, g2⟩ := ht <;> rw [hsd] at g1
        · rw [show (Nat.add (Nat.mul 16 sz) 4) = 16 * sz + 4 from rfl, dec_sl, encRX_eq, encR_dec]
          simp only [eff2, eff, g1, g2, hn]
          rw [if_pos h2, if_neg h3]
        · simp only [preB, g1, g2, hc]
          rw [if_neg h3]
        · simp only [rdOf, g1, g2, hsd]; rfl
    obtain ⟨h1, h⟩ := ifX_some h
    obtain ⟨o, hg, h⟩ := rowX_some h
    obtain ⟨h2, h⟩ := ifX_some h
    obtain ⟨h3, h⟩ := ifX_some h
    obtain ⟨h4, h⟩ := ifX_some h
    have h2 := Nat.eq_of_beq_eq_true h2
    have h3 := Nat.eq_of_beq_eq_true h3
    have h4 := Nat.eq_of_beq_eq_true h4
    rcases iteX_some h with ⟨h5, h⟩ | ⟨h5, h⟩
    · obtain ⟨h6, h⟩ := ifX_some h
      have hrm : rK s + oLn s + ys.length ≤ o.l.length := by
        rw [lenX_eq, lenX_eq] at h5
        exact Nat.le_of_ble_eq_true h5
      rw [lenX_eq] at h6 h
      have h6 : oLn s + ys.length < 65536 := blt_lt h6
      have hs : rS s < 256 := by rw [rS_eq]; omega
      have hk : rK s < 65536 := by rw [rK_eq]; omega
      have e1 : (mkO (oBn s) (rS s) (rK s) (Nat.add (oLn s) ys.length)).dec = .own (oBn s) (rS s) (rK s) (oLn s + ys.length) := mkO_dec hs hk h6
      have hrm' : rK s + oLn s + (decR ys).length ≤ (decR o.l).length := by rw [decR_len, decR_len]; exact hrm
      refine ⟨_, _, [(oBn s, .row e sz ((decR o.l).take (rK s + oLn s) ++ (decR ys ++ (decR o.l).drop (rK s + oLn s + (decR ys).length))))], h, fun k => ?_, fun zs a b => Sh.of rfl fun t ht => ⟨true = true, ?_, ?_, ?_⟩⟩
      · rw [← replX_get H (oBn s) _ rfl k]
        simp only [List.cons_append, List.nil_append, get]
        split
        · simp only [XO.dec1, h3, h4]
          rw [show Nat.add (rK s) (oLn s) = rK s + oLn s from rfl, splX_eq _ _ _ hrm]
          simp only [decR_app, decR_take, decR_drop, decR_len]
        · rfl
      · obtain ⟨g1, g2⟩ := ht
        rw [isT8 h1] at g1
        rw [e1]; simp only [eff2, eff, g1, g2, hn, hg]
        rw [if_pos ⟨h2, h3, h4⟩, if_pos hrm']
        simp only [decR_len, ← h2]
      · obtain ⟨g1, g2⟩ := ht
        rw [isT8 h1] at g1
        simp only [preB, g1, g2, hc, hg]
        rw [if_pos hrm']
      · obtain ⟨g1, g2⟩ := ht
        simp only [rdOf, g1, g2]; rfl
    have hnrm : ¬ (rK s + oLn s + (decR ys).length ≤ (decR o.l).length) := by
      rw [decR_len, decR_len]
      intro q2
      rw [lenX_eq, lenX_eq, Nat.ble_eq_true_of_le (show Nat.add (Nat.add (rK s) (oLn s)) ys.length ≤ o.l.length from q2)] at h5
      cases h5
    obtain ⟨h5, h⟩ := ifX_some h
    obtain ⟨h6, h⟩ := ifX_some h
    obtain ⟨h7, h⟩ := ifX_some h
    obtain ⟨y, H', h, hy, hH, hl⟩ := xRow_some h
    rw [lenX_eq] at h5 h6 hl hy
    have h5 : (oLn s + ys.length) * bytes ≤ 140737488355328 := Nat.le_of_ble_eq_true h5
    have h6 : rK s + oLn s ≤ o.l.length := Nat.le_of_ble_eq_true h6
    have h7 := blt_lt h7
    have hl : oLn s + ys.length < 65536 := hl
    have hy : y.dec = .own nm sz 0 (oLn s + ys.length) := hy
    have hm := maxLen_ge
    refine ⟨y, H', [(nm, .row e sz (((decR o.l).drop (rK s)).take (oLn s) ++ decR ys)), (oBn s, .dead)], h, fun k => ?_, fun zs a b => Sh.of rfl fun t ht => ⟨true = true ∧ (oLn s + (decR ys).length) * bytes ≤ 140737488355328 ∧ oLn s + (decR ys).length ≤ maxLen ∧ rK s + oLn s ≤ (decR o.l).length, ?_, ?_, ?_⟩⟩
    · rw [hH]
      show get ((nm, _) :: ((oBn s, Ob.dead) :: decH H)) k = _
      rw [appX_eq, takeX_eq, dropX_eq, decR_app, decR_take, decR_drop]
      exact HEq'.cons (replX_get H (oBn s) ⟨oBn s, 2, 0, 0, [], .dead⟩ rfl) _ _ k
    · obtain ⟨g1, g2⟩ := ht
      rw [isT8 h1] at g1
      rw [hy]; simp only [eff2, eff, g1, g2, hn, hg]
      rw [if_pos ⟨h2, h3, h4⟩, if_neg hnrm]
      simp only [decR_len]
    · obtain ⟨g1, g2⟩ := ht
      rw [isT8 h1] at g1
      simp only [preB, g1, g2, hc, hg]
      rw [if_neg hnrm]
      simp only [Bool.true_and]; exact decide_eq_true ⟨by rw [decR_len]; exact h5, by rw [decR_len]; omega, by rw [decR_len]; exact h6⟩
    · obtain ⟨g1, g2⟩ := ht
      simp only [rdOf, g1, g2]; rfl
theorem xCopy_ok {sz : Nat} {d x : X} {H : HX} {k : X → HX → RRX} {r} (h : xCopy sz d x H k = some r) :
    ∃ y H' u, k y H' = some r ∧ HEq' (u ++ decH H) (decH H') ∧ ∀ nm a b, Sh (.copy sz a b) nm (decH H) (fun t => ev t a = some d.dec ∧ ev t b = some x.dec) y.dec u (d.dec.nms ++ x.dec.nms) := by
  obtain ⟨ys, h, hc⟩ := conX_some h
  have hn := contentsN_of hc
  obtain ⟨h1, h⟩ := ifX_some h
  obtain ⟨o, hg, h⟩ := rowX_some h
  obtain ⟨h2, h⟩ := ifX_some h
  obtain ⟨h3, h⟩ := ifX_some h
  obtain ⟨h4, h⟩ := ifX_some h
  rw [lenX_eq, takeX_eq] at h
  rw [lenX_eq] at h4
  have h2 := Nat.eq_of_beq_eq_true h2
  have h3 := Nat.eq_of_beq_eq_true h3
  have h4 : rK d + oLn d ≤ o.l.length := Nat.le_of_ble_eq_true h4
  have hfit : rK d + (ys.take (oLn d)).length ≤ o.l.length := by rw [List.length_take]; omega
  refine ⟨_, _, [(oBn d, .row o.e o.sz ((decR o.l).take (rK d) ++ ((decR ys).take (oLn d) ++ (decR o.l).drop (rK d + min (oLn d) (decR ys).length))))], h, fun k => ?_, fun nm a b => Sh.of rfl fun t ht => ⟨true = true ∧ rK d + oLn d ≤ (decR o.l).length, ?_, ?_, ?_⟩⟩
  · rw [← replX_get H (oBn d) _ rfl k]
    simp only [List.cons_append, List.nil_append, get]
    split
    · simp only [XO.dec1]
      rw [splX_eq _ _ _ hfit]
      simp only [decR_app, decR_take, decR_drop, decR_len, List.length_take]
    · rfl
  · obtain ⟨g1, g2⟩ := ht
    rw [isT8 h1] at g1
    simp only [eff2, eff, g1, g2, hn, hg]
    rw [if_pos ⟨h2, h3⟩]
    rw [show (Nat.mul 16 (ys.take (oLn d)).length) = 16 * min (oLn d) (decR ys).length by rw [List.length_take, decR_len]; rfl, dec_int, ← h3]
  · obtain ⟨g1, g2⟩ := ht
    rw [isT8 h1] at g1
    simp only [preB, g1, g2, hc, hg, Bool.true_and]; exact decide_eq_true (by rw [decR_len]; exact h4)
  · obtain ⟨g1, g2⟩ := ht
    simp only [rdOf, g1, g2]; rfl
theorem xSlice_ok {sz : Nat} {x : X} {lo : Nat} {hi : Option Nat} {H : HX} {k : X → RRX} {r} (h : xSlice sz x lo hi H k = some r) :
    ∃ y, k y = some r ∧ ∀ nm z (a b : Option Operand), Sh (.slice sz z a b none) nm (decH H) (fun t => ev t z = some x.dec ∧ bound t 0 a = some (Int.ofNat lo) ∧ ∀ d, bound t d b = some (Int.ofNat (hi.getD d))) y.dec [] x.dec.nms := by
  rcases iteX_some h with ⟨h1, h⟩ | ⟨_, h⟩
  · obtain ⟨h2, h⟩ := ifX_some h
    have h2 := Nat.eq_of_beq_eq_true h2
    have hx := X.dec4 (isT_eq h1)
    have key : ∀ l', (X.mk x.n l' oZ).dec = .sl (hiX x) (decR l') := fun l' => by
      rw [X.dec4 (x := X.mk x.n l' oZ) (isT_eq h1), hiX_eq]
    cases hi with
    | none =>
      obtain ⟨h3, h⟩ := ifX_some (b := Nat.ble lo (lenX x.l)) (k := k ⟨x.n, dropX x.l lo, oZ⟩) h
      rw [lenX_eq] at h3
      have h3 := Nat.le_of_ble_eq_true h3
      refine ⟨_, h, fun nm z a b => Sh.of rfl fun t ht => ⟨(0 : Int) ≤ Int.ofNat lo ∧ Int.ofNat lo ≤ Int.ofNat x.l.length ∧ Int.ofNat x.l.length ≤ (x.l.length : Int), ?_, ?_, ?_⟩⟩ <;> obtain ⟨g1, g2, g3⟩ := ht
      · rw [isT4 h1] at g1
        rw [key, dropX_eq]
        simp only [eff2, eff, g1, g2, g3, Option.getD_none, decR_len, if_pos h2]
        simp only [Int.ofNat_eq_natCast, Int.toNat_natCast, decR_drop, h2]
        rw [List.take_of_length_le (by rw [decR_len]; omega)]
      · rw [isT4 h1] at g1
        simp only [preB, g1, g2, g3, Option.getD_none, decR_len]
        exact decide_eq_true ⟨by simp, by simp only [Int.ofNat_eq_natCast]; omega, by simp⟩
      · simp only [rdOf, g1]; rfl
    | some q =>
      obtain ⟨h3, h⟩ := ifX_some (b := Nat.ble lo q) (k := ifX (Nat.ble q (lenX x.l)) (k ⟨x.n, dropX (takeX x.l q) lo, oZ⟩)) h
      obtain ⟨h4, h⟩ := ifX_some h
      rw [lenX_eq] at h4
      have h3 := Nat.le_of_ble_eq_true h3
      have h4 := Nat.le_of_ble_eq_true h4
      refine ⟨_, h, fun nm z a b => Sh.of rfl fun t ht => ⟨(0 : Int) ≤ Int.ofNat lo ∧ Int.ofNat lo ≤ Int.ofNat q ∧ Int.ofNat q ≤ (x.l.length : Int), ?_, ?_, ?_⟩⟩ <;> obtain ⟨g1, g2, g3⟩ := ht
      · rw [isT4 h1] at g1
        rw [key, dropX_eq, takeX_eq]
        simp only [eff2, eff, g1, g2, g3, Option.getD_some, decR_len, if_pos h2]
        simp only [Int.ofNat_eq_natCast, Int.toNat_natCast, decR_drop, decR_take, h2]
      · rw [isT4 h1] at g1
        simp only [preB, g1, g2, g3, Option.getD_some, decR_len]
        exact decide_eq_true ⟨by simp, by simp only [Int.ofNat_eq_natCast]; omega, by simp only [Int.ofNat_eq_natCast]; omega⟩
      · simp only [rdOf, g1]; rfl
  · rcases iteX_some h with ⟨h1, h⟩ | ⟨_, h⟩
    · obtain ⟨o, hg, h⟩ := rowX_some h
      obtain ⟨h2, h⟩ := ifX_some h
      obtain ⟨h3, h⟩ := ifX_some h
      obtain ⟨h4, h⟩ := ifX_some h
      obtain ⟨h5, h⟩ := ifX_some h
      have e0 : @Option.rec Nat (fun _ => Nat) (oLn x) (fun r => r) hi = hi.getD (oLn x) := by cases hi <;> rfl
      rw [e0] at h h3 h4
      have h2 := Nat.eq_of_beq_eq_true h2
      have h3 := Nat.le_of_ble_eq_true h3
      have h5 : rK x + lo < 65536 := blt_lt h5
      have hs : rS x < 256 := by rw [rS_eq]; omega
      have hl : oLn x < 65536 := by rw [oLn_eq]; omega
      have h4 : hi.getD (oLn x) < 65536 ∧ (hi.getD (oLn x) ≤ oLn x ∨ (0 < sz ∧ sz = o.sz ∧ rK x + hi.getD (oLn x) ≤ o.l.length)) := by
        cases hb : Nat.ble (hi.getD (oLn x)) (oLn x) with
        | true => have := Nat.le_of_ble_eq_true hb; exact ⟨by omega, .inl this⟩
        | false =>
          rw [hb] at h4
          have h4 : moreX sz (rK x) (hi.getD (oLn x)) o = true := h4
          unfold moreX at h4
          cases q1 : Nat.blt 0 sz with
          | false => rw [q1] at h4; cases h4
          | true =>
            rw [q1] at h4
            cases q2 : Nat.beq sz o.sz with
            | false => rw [q2] at h4; cases h4
            | true =>
              rw [q2] at h4
              cases q3 : Nat.ble (Nat.add (rK x) (hi.getD (oLn x))) (lenX o.l) with
              | false => rw [q3] at h4; cases h4
              | true =>
                rw [q3] at h4
                rw [lenX_eq] at q3
                exact ⟨blt_lt h4, .inr ⟨blt_lt q1, Nat.eq_of_beq_eq_true q2, Nat.le_of_ble_eq_true q3⟩⟩
      obtain ⟨h4l, h4⟩ := h4
      refine ⟨_, h, fun nm z a b => Sh.of rfl fun t ht => ⟨(0 : Int) ≤ Int.ofNat lo ∧ Int.ofNat lo ≤ Int.ofNat (hi.getD (oLn x)) ∧ (Int.ofNat (hi.getD (oLn x)) ≤ (oLn x : Int) ∨ (0 < sz ∧ sz = o.sz ∧ rK x + (Int.ofNat (hi.getD (oLn x))).toNat ≤ (decR o.l).length)), ?_, ?_, ?_⟩⟩ <;> obtain ⟨g1, g2, g3⟩ := ht
      · rw [isT8 h1] at g1
        have e1 : (mkO (oBn x) (rS x) (Nat.add (rK x) lo) (Nat.sub (hi.getD (oLn x)) lo)).dec = .own (oBn x) (rS x) (rK x + lo) (hi.getD (oLn x) - lo) := mkO_dec hs h5 (show hi.getD (oLn x) - lo < 65536 by omega)
        rw [e1]
        simp only [eff2, eff, g1, g2, g3, hg, if_pos h2]
        simp only [Int.ofNat_eq_natCast, Int.toNat_natCast]
      · rw [isT8 h1] at g1
        simp only [preB, g1, g2, g3, hg]
        exact decide_eq_true ⟨by simp, by simp only [Int.ofNat_eq_natCast]; omega, by
          rw [decR_len]
          rcases h4 with h4 | h4
          · exact .inl (by simp only [Int.ofNat_eq_natCast]; omega)
          · exact .inr ⟨h4.1, h4.2.1, by simpa using h4.2.2⟩⟩
      · simp only [rdOf, g1]; rfl
    · obtain ⟨h1, h⟩ := ifX_some h
      obtain ⟨h2, h⟩ := ifX_some h
      obtain ⟨h3, h⟩ := ifX_some h
      have e0 : @Option.rec Nat (fun _ => Nat) 0 (fun r => r) hi = hi.getD 0 := by cases hi <;> rfl
      rw [e0] at h3
      have h2 := Nat.eq_of_beq_eq_true h2
      have h3 := Nat.eq_of_beq_eq_true h3
      refine ⟨_, h, fun nm z a b => Sh.of rfl fun t ht => ⟨Int.ofNat lo = 0 ∧ Int.ofNat (hi.getD 0) = 0, ?_, ?_, ?_⟩⟩ <;> obtain ⟨g1, g2, g3⟩ := ht
      · rw [X.dec6 (isT_eq h1)] at g1
        rw [X.dec6 (isT_eq h1)]
        simp only [eff2, eff, g1, g2, g3]
      · rw [X.dec6 (isT_eq h1)] at g1
        simp only [preB, g1, g2, g3]
        exact decide_eq_true ⟨by rw [h2]; rfl, by rw [h3]; rfl⟩
      · simp only [rdOf, g1]; rfl
theorem xIsnil_ok {neg : Bool} {x : X} {k : X → RRX} {r} (h : xIsnil neg x k = some r) : ∃ y, k y = some r ∧ ∀ nm H z, Sh (.isnil neg z) nm H (fun t => ev t z = some x.dec) y.dec [] [] := by
  have fin : ∀ (b : Bool) (y : X), nilK (some x.dec) = some (some b) → y.dec = .v (.bool (if neg then !b else b)) → ∀ nm H z, Sh (.isnil neg z) nm H (fun t => ev t z = some x.dec) y.dec [] [] := by
    intro b y hb hy nm H z run t o ht ho
    obtain ⟨dst, op, guard, af⟩ := o
    subst ho
    simp only [opX, ht, hb, hy]
  rcases iteX_some h with ⟨h1, h⟩ | ⟨_, h⟩
  · refine ⟨_, h, fin true _ (by rw [X.dec6 (isT_eq h1)]; rfl) ?_⟩
    rw [mkB_dec, notX_eq]; cases neg <;> rfl
  · obtain ⟨h1, h⟩ := ifX_some h
    cases hl : x.l with
    | nil => rw [hl] at h; cases h
    | cons a l =>
      rw [hl] at h
      refine ⟨_, h, fin false _ (by rw [isT4 h1, hl]; obtain ⟨n, l', o⟩ := a; simp only [decR, nilK]) ?_⟩
      rw [mkB_dec]; cases neg <;> rfl
theorem xEqs_ok {neg : Bool} {ks : List Nat} {x y : X} {k : X → RRX} {r} (h : xEqs neg ks x y k = some r) : ∃ v, k v = some r ∧ ∀ nm H a b, Sh (.eqs neg ks a b) nm H (fun t => ev t a = some x.dec ∧ ev t b = some y.dec) v.dec [] [] := by
  obtain ⟨h1, h⟩ := ifX_some h
  obtain ⟨h2, h⟩ := ifX_some h
  cases hc : eqCellsB ks (decL x.l) (decL y.l) with
  | none => rw [hc] at h; cases h
  | some c =>
    rw [hc] at h
    refine ⟨_, h, fun nm H a b => Sh.of rfl fun t ht => ⟨True, ?_, rfl, rfl⟩⟩
    obtain ⟨g1, g2⟩ := ht
    rw [X.dec2 (isT_eq h1)] at g1
    rw [X.dec2 (isT_eq h2)] at g2
    rw [mkB_dec]
    simp only [eff2, g1, g2, hc, notX_eq]
    cases neg <;> rfl
theorem xConv_ok {q : IntKind} {x : X} {k : X → RRX} {r} (h : xConv q x k = some r) : ∃ v, k v = some r ∧ ∀ nm H a, Sh (.conv q a) nm H (fun t => ev t a = some x.dec) v.dec [] [] := by
  unfold xConv at h
  split at h
  · rename_i n hd
    refine ⟨_, h, fun nm H a => Sh.of rfl fun t ht => ⟨True, ?_, rfl, rfl⟩⟩
    rw [hd] at ht
    rw [encV_dec]
    simp only [eff2, eff, ht]; rfl
  · cases h
theorem ag_of' {t t' : List (Nat × AV)} : ∀ l : List Operand, (∀ j ∈ tmpsO l, ∃ x, get t' j = some x ∧ get t j = some x) → Ag t t' l := by
  intro l
  induction l with
  | nil => intro _ x hx; simp at hx
  | cons y l ih =>
    intro h x hx
    rcases List.mem_cons.1 hx with rfl | hx
    · cases x with
      | tmp k =>
        obtain ⟨z, h1, h2⟩ := h k (by simp [tmpsO])
        simp only [ev, h1, h2]
      | _ => rfl
    · refine ih (fun j hj => h j ?_) x hx
      cases y <;> simp [tmpsO, hj]
theorem xGen_ok {op : SOp} {ts : List (Nat × X)} {n nm : Nat} {H : HX} {k : X → HX → RRX} {r} (hp : plainOp op = true) (h : xGen op ts n nm H k = some r) :
    ∃ y H' u rd, k y H' = some r ∧ HEq' (u ++ decH H) (decH H') ∧ Sh op nm (decH H) (fun t => ∀ j ∈ tmpsO (opnds op), ∃ x, get (ts.map fun p => (p.1, p.2.dec)) j = some x ∧ get t j = some x) y.dec u rd := by
  unfold xGen at h
  split at h
  · rename_i e he
    cases hb : preB (ts.map fun p => (p.1, p.2.dec)) (decH H) op with
    | false => rw [hb] at h; cases h
    | true =>
      rw [hb] at h
      refine ⟨_, _, e.upd, rdOf (ts.map fun p => (p.1, p.2.dec)) op, h, ?_, Sh.of hp fun t ht => ?_⟩
      · have := upX_get (h := decH H) (H := H) (fun _ => rfl) n (encH e.upd)
        rw [encH_dec] at this
        exact this
      · obtain ⟨g1, g2, g3⟩ := eff2_ag (nm := nm) (h := decH H) hp (ag_of' _ ht)
        obtain ⟨p, y, u⟩ := e
        exact ⟨p, by rw [enc_dec]; exact g1.trans he, g2.trans hb, g3⟩
  · cases h
structure ROX where
  vs : List X
  h : HX
  O : List Use
  dp : Bool
abbrev RunX := FuncId → List X → List (List X) → List XO → Option ROX
def RunXOk (P : Program) (run : RunX) : Prop := ∀ f xs bs gs vs h O, ∀ dp, run f xs bs gs = some ⟨vs, h, O, dp⟩ → Valid P O →
  ∃ t res, retV t (decH h) res = some (decL vs) ∧ ∀ r bs' es, Fin res r bs' es t (decH h) → FnG P f (decL xs) (bs.map decL) (gs.map XO.decO) r bs' es
noncomputable section
def toO (run : RunX) : RunO := fun f xs bs gs => match run f (encL xs) (bs.map encL) (gs.map (encO 0)) with
  | some r => some ⟨decL r.vs, decH r.h, r.O, r.dp⟩
  | none => none
end
theorem toO_ok {P : Program} {run : RunX} (hr : RunXOk P run) : RunOOk P (toO run) := by
  intro f xs bs gs vs h O dp e hv
  simp only [toO] at e
  split at e
  · rename_i r0 h0
    obtain ⟨vs0, h0', O0, dp0⟩ := r0
    simp only [Option.some.injEq, RO.mk.injEq] at e
    obtain ⟨rfl, rfl, rfl, rfl⟩ := e
    obtain ⟨t, res, h1, h2⟩ := hr _ _ _ _ _ _ _ _ h0 hv
    refine ⟨t, res, h1, fun r bs' es hF => ?_⟩
    have h3 := h2 r bs' es hF
    rw [encL_dec] at h3
    have e1 : (bs.map encL).map decL = bs := by rw [List.map_map]; conv => rhs; rw [← List.map_id bs]
                                                exact List.map_congr_left fun x _ => encL_dec x
    have e2 : (gs.map (encO 0)).map XO.decO = gs := by rw [List.map_map]; conv => rhs; rw [← List.map_id gs]
                                                       exact List.map_congr_left fun x _ => (encO_dec 0 x).1
    rw [e1, e2] at h3
    exact h3
  · cases e
noncomputable section
def noLoX (h : HX) : Bool := @List.rec XO (fun _ => Bool) true (fun p _ ih => @Bool.rec (fun _ => Bool) false ih (Nat.ble 4 p.b)) h
def retX (vs : List X) : X := @List.rec X (fun _ => X) ⟨5, [], oZ⟩ (fun x l _ => @List.rec X (fun _ => X) x (fun _ _ _ => ⟨5, vs, oZ⟩) l) vs
def endX (n nm : Nat) (H : HX) (r : ROX) (O : List Use) (k : KX) : RRX := match finG 0 (tops r.dp 0 (decL r.vs)).eraseDups (decL r.vs) (decH r.h) with
  | some (v, _, es) => bif decide (es.length ≤ 8) && expA es.length v then k (enc (sh nm v)) (upX n (encH (obsFrom nm es)) H) (apO r.O O) else none
  | none => none
def slowX (run : RunX) (n nm : Nat) (H : HX) (f : FuncId) (ys : List X) (O : List Use) (k : KX) : RRX := match callXO false (toO run) nm (decH H) f (decL ys) with
  | some ⟨r, o⟩ => k (enc r.val) (upX n (encH r.upd) H) (apO o O)
  | none => none
end
theorem noLoX_eq : ∀ h : HX, noLoX h = noLo (decH h)
  | [] => rfl
  | p :: l => by
    have e : noLoX (p :: l) = @Bool.rec (fun _ => Bool) false (noLoX l) (Nat.ble 4 p.b) := rfl
    rw [e]
    simp only [decH, noLo, noLoX_eq l]
    cases Nat.ble 4 p.b <;> rfl
theorem retX_dec : ∀ vs : List X, (retX vs).dec = retOne (decL vs)
  | [] => by simp only [retX, decL, retOne, X.dec]
  | [x] => by simp only [retX, decL, retOne]
  | x :: y :: l => by
    have e : retX (x :: y :: l) = ⟨5, x :: y :: l, oZ⟩ := rfl
    rw [e, dec_tup]
    simp only [decL, retOne]
end Go.Eng

namespace Go.Eng
open Go
noncomputable section
def ifO {α : Type} (b : Bool) (k : Option α) : Option α := @Bool.rec (fun _ => Option α) none k b
def iteO {α : Type} (b : Bool) (k d : Option α) : Option α := @Bool.rec (fun _ => Option α) d k b
def bO {α β : Type} (x : Option α) (k : α → Option β) : Option β := @Option.rec α (fun _ => Option β) none k x
def findX (H : HX) (b : Nat) : Option XO := @List.rec XO (fun _ => Option XO) none (fun p _ ih => @Bool.rec (fun _ => Option XO) ih (some p) (Nat.beq p.b b)) H
def idxG (O : List Nat) (b : Nat) (i : Nat) : Option Nat := @List.rec Nat (fun _ => Nat → Option Nat) (fun _ => none) (fun a _ ih i => @Bool.rec (fun _ => Option Nat) (ih (Nat.succ i)) (some i) (Nat.beq a b)) O i
def isV : AV → Bool
  | .v _ => true
  | _ => false
def tr1X (nm : Nat) (H : HX) (O : List Nat) (x : X) : Option X :=
  iteO (bitT 2643 x) (some x) (iteO (isT x 8)
    (@Option.rec Nat (fun _ => Option X) (bO (findX H (oBn x)) fun p => ifO (Nat.beq p.k 1) (ifO (Nat.beq p.sz (rS x)) (ifO (Nat.ble (Nat.add (rK x) (oLn x)) (lenX p.l)) (some ⟨Nat.add (Nat.mul 16 (rS x)) 4, takeX (dropX p.l (rK x)) (oLn x), oZ⟩))))
      (fun i => some (mkO (Nat.add nm i) (rS x) (rK x) (oLn x))) (idxG O (oBn x) 0))
    (ifO (isT x 15) (ifO x.o.pure (some x))))
def trLX (f : X → Option X) (l : List X) : Option (List X) := @List.rec X (fun _ => Option (List X)) (some []) (fun x _ ih => bO (f x) fun y => bO ih fun ys => some (y :: ys)) l
def tr2X (nm : Nat) (H : HX) (O : List Nat) (x : X) : Option X := iteO (isT x 2) (bO (trLX (tr1X nm H O) x.l) fun ys => some ⟨2, ys, oZ⟩) (tr1X nm H O x)
def trVX (nm : Nat) (H : HX) (O : List Nat) (vs : List X) : Option X := @List.rec X (fun _ => Option X) (some ⟨5, [], oZ⟩) (fun x l _ => @List.rec X (fun _ => Option X) (tr2X nm H O x) (fun _ _ _ => bO (trLX (tr2X nm H O) vs) fun ys => some ⟨5, ys, oZ⟩) l) vs
def obsXX (H : HX) (O : List Nat) (nm : Nat) : Option HX := @List.rec Nat (fun _ => Nat → Option HX) (fun _ => some []) (fun b _ ih i => bO (findX H b) fun p => ifO (Nat.beq p.k 1) (bO (ih (Nat.succ i)) fun l => some (⟨i, 1, p.e, p.sz, p.l, .dead⟩ :: l))) O nm
def topX (vs : List X) (acc : List Nat) : List Nat := @List.rec X (fun _ => List Nat → List Nat) (fun acc => acc) (fun x _ ih acc => ih (@Bool.rec (fun _ => List Nat) acc (@Bool.rec (fun _ => List Nat) (oBn x :: acc) acc (memL (oBn x) acc)) (isT x 8))) vs acc
def topDX (vs : List X) (acc : List Nat) : List Nat := @List.rec X (fun _ => List Nat → List Nat) (fun acc => acc) (fun x _ ih acc => ih (@Bool.rec (fun _ => List Nat) (topX [x] acc) (topX x.l acc) (isT x 2))) vs acc
def ndL (O : List Nat) : Bool := @List.rec Nat (fun _ => Bool) true (fun a l ih => @Bool.rec (fun _ => Bool) ih false (memL a l)) O
def lenN (O : List Nat) : Nat := @List.rec Nat (fun _ => Nat) 0 (fun _ _ ih => Nat.succ ih) O
structure XE where
  v : X
  u : HX
def fEndO (nm : Nat) (r : ROX) (O : List Nat) : Option XE := ifO (ndL O) (ifO (noLoX r.h) (ifO (Nat.ble (lenN O) 8) (bO (trVX nm r.h O r.vs) fun v => bO (obsXX r.h O nm) fun u => some ⟨v, u⟩)))
def fEnd (nm : Nat) (r : ROX) : Option XE := fEndO nm r (@Bool.rec (fun _ => List Nat) (topX r.vs []) (topDX r.vs []) r.dp)
def endXX (n nm : Nat) (H : HX) (r : ROX) (O : List Use) (k : KX) : RRX := @Option.rec XE (fun _ => RRX) (endX n nm H r O k) (fun e => k e.v (upX n e.u H) (apO r.O O)) (fEnd nm r)
def nm1X (l : List X) : List Nat := @List.rec X (fun _ => List Nat) [] (fun x _ ih => @Bool.rec (fun _ => List Nat) ih (oBn x :: ih) (isT x 8)) l
def appN (l m : List Nat) : List Nat := @List.rec Nat (fun _ => List Nat) m (fun c _ ih => c :: ih) l
def nmsX (l : List X) : List Nat := @List.rec X (fun _ => List Nat) [] (fun x _ ih => @Bool.rec (fun _ => List Nat) (@Bool.rec (fun _ => List Nat) ih (oBn x :: ih) (isT x 8)) (appN (nm1X x.l) ih) (isT x 2)) l
def na1X (x : X) : Bool := @Bool.rec (fun _ => Bool) (@Bool.rec (fun _ => Bool) false (isV x.o) (isT x 15)) true (bitT 2371 x)
def na2X (x : X) : Bool := @Bool.rec (fun _ => Bool) (na1X x) (allX na1X x.l) (isT x 2)
def na3X (x : X) : Bool := @Bool.rec (fun _ => Bool) (na2X x) (allX na2X x.l) (isT x 5)
def naRX (u : HX) : Bool := @List.rec XO (fun _ => Bool) true (fun p _ ih => @Bool.rec (fun _ => Bool) false (@Bool.rec (fun _ => Bool) false ih (allX (fun e => allX na1X e.l) p.l)) (Nat.beq p.k 1)) u
def rowsX (H : HX) (Z : List Nat) : Bool := @List.rec Nat (fun _ => Bool) true (fun b _ ih => @Option.rec XO (fun _ => Bool) false (fun p => @Bool.rec (fun _ => Bool) false ih (Nat.beq p.k 1)) (findX H b)) Z
def killX (Z : List Nat) : HX := @List.rec Nat (fun _ => HX) [] (fun b _ ih => ⟨b, 2, 0, 0, [], .dead⟩ :: ih) Z
def appH (l m : HX) : HX := @List.rec XO (fun _ => HX) m (fun c _ ih => c :: ih) l
structure XC where
  v : X
  H : HX
  O : List Use
def impX (run : RunX) (n nm : Nat) (H : HX) (f : FuncId) (ys : List X) : Option XC := bO (trLX (tr2X 0 H []) ys) fun zs => ifO (purL zs) (bO (run f zs [] []) fun r => bO (fEnd nm r) fun e =>
  iteO (@Bool.rec (fun _ => Bool) false (naRX e.u) (na3X e.v)) (some ⟨e.v, upX n e.u H, r.O⟩) (ifO (rowsX H (nmsX ys)) (some ⟨e.v, upX n (appH e.u (killX (nmsX ys))) H, r.O⟩)))
def ptrN (ys : List X) : Option Nat := @List.rec X (fun _ => Option Nat) none (fun y _ ih => @Bool.rec (fun _ => Option Nat) ih (some (pB y)) (isT y 7)) ys
def bx1 (b : Nat) (y : X) : Option X := iteO (isT y 7) (ifO (Nat.beq (pB y) b) (some ⟨Nat.add (Nat.mul 16 (pJ y)) 7, [], oZ⟩)) (ifO (pur1 y) (some y))
def lo1 (h : HX) : Bool := @List.rec XO (fun _ => Bool) true (fun p _ ih => @Bool.rec (fun _ => Bool) (@Bool.rec (fun _ => Bool) false ih (Nat.beq p.b 0)) ih (Nat.ble 4 p.b)) h
def boxC (run : RunX) (H : HX) (f : FuncId) (ys : List X) : Option XC := bO (ptrN ys) fun b => bO (trLX (bx1 b) ys) fun xs => bO (findX H b) fun p => ifO (Nat.beq p.k 0) (ifO (purL p.l) (bO (run f xs [p.l] []) fun r =>
  ifO (purL r.vs) (ifO (lo1 r.h) (bO (findX r.h 0) fun q => ifO (Nat.beq q.k 0) (ifO (purL q.l) (some ⟨retX r.vs, replX b ⟨b, 0, 0, 0, q.l, .dead⟩ H, r.O⟩))))))
structure XQ where
  v : X
  O : List Use
def nilHX (u : HX) : Bool := @List.rec XO (fun _ => Bool) true (fun _ _ _ => false) u
def argQ (H : HX) (ys : List X) : Option (List X) := @Bool.rec (fun _ => Option (List X)) (bO (trLX (tr2X 0 H []) ys) fun zs => ifO (purL zs) (some zs)) (some ys) (purL ys)
def quiX (run : RunX) (nm : Nat) (H : HX) (f : FuncId) (ys : List X) : Option XQ := bO (argQ H ys) fun zs => bO (run f zs [] []) fun r => bO (fEnd nm r) fun e => ifO (nilHX e.u) (ifO (@Bool.rec (fun _ => Bool) (na3X e.v) true (purL ys)) (some ⟨e.v, r.O⟩))
def callQ (run : RunX) (n nm : Nat) (H : HX) (f : FuncId) (ys : List X) (O : List Use) (k : KX) : RRX := @Option.rec XQ (fun _ => RRX) none (fun c => k c.v H (apO c.O O)) (quiX run nm H f ys)
def callPu (run : RunX) (n nm : Nat) (H : HX) (f : FuncId) (ys : List X) (O : List Use) (k : KX) : RRX := ifX (purL ys) (callQ run n nm H f ys O k)
def callX' (run : RunX) (n nm : Nat) (H : HX) (f : FuncId) (ys : List X) (O : List Use) (k : KX) : RRX :=
  @Bool.rec (fun _ => RRX) (@Option.rec XC (fun _ => RRX) (@Option.rec XC (fun _ => RRX) (slowX run n nm H f ys O k) (fun c => k c.v c.H (apO c.O O)) (boxC run H f ys)) (fun c => k c.v c.H (apO c.O O)) (impX run n nm H f ys))
    (@Option.rec ROX (fun _ => RRX) none (fun r => @Bool.rec (fun _ => RRX) (endXX n nm H r O k) (@Bool.rec (fun _ => RRX) (endXX n nm H r O k) (k (retX r.vs) H (apO r.O O)) (noLoX r.h)) (purL r.vs)) (run f ys [] [])) (purL ys)
end
theorem ifO_some {α : Type} {b : Bool} {k : Option α} {r} (h : ifO b k = some r) : b = true ∧ k = some r := by
  cases b with
  | true => exact ⟨rfl, h⟩
  | false => cases h
theorem iteO_some {α : Type} {b : Bool} {k d : Option α} {r} (h : iteO b k d = some r) : (b = true ∧ k = some r) ∨ (b = false ∧ d = some r) := by
  cases b with
  | true => exact .inl ⟨rfl, h⟩
  | false => exact .inr ⟨rfl, h⟩
theorem bO_some {α β : Type} {x : Option α} {k : α → Option β} {r} (h : bO x k = some r) : ∃ y, x = some y ∧ k y = some r := by
  cases x with
  | none => cases h
  | some x => exact ⟨x, rfl, h⟩
theorem findX_some : ∀ {H : HX} {b : Nat} {p : XO}, findX H b = some p → get (decH H) b = some p.decO
  | [], b, p, h => by cases h
  | q :: H, b, p, h => by
    have h' : @Bool.rec (fun _ => Option XO) (findX H b) (some q) (Nat.beq q.b b) = some p := h
    simp only [decH, get]
    cases hb : Nat.beq q.b b with
    | true => rw [hb] at h'; cases h'; rw [if_pos (Nat.eq_of_beq_eq_true hb)]
    | false => rw [hb] at h'; rw [if_neg (Nat.ne_of_beq_eq_false hb)]; exact findX_some h'
theorem idxG_some : ∀ {O : List Nat} {b i j : Nat}, idxG O b i = some j → get (exV O (4 + i)) b = some (4 + j) ∧ get (exS O (4 + i)) (4 + j) = some b ∧ i ≤ j ∧ j < i + O.length
  | [], b, i, j, h => by cases h
  | a :: O, b, i, j, h => by
    have h' : @Bool.rec (fun _ => Option Nat) (idxG O b (i + 1)) (some i) (Nat.beq a b) = some j := h
    simp only [exV, exS, get, List.length_cons]
    cases hb : Nat.beq a b with
    | true =>
      rw [hb] at h'
      cases h'
      have := Nat.eq_of_beq_eq_true hb
      rw [if_pos this, if_pos rfl, this]
      exact ⟨rfl, rfl, by omega, by omega⟩
    | false =>
      rw [hb] at h'
      obtain ⟨h1, h2, h3, h4⟩ := idxG_some h'
      rw [if_neg (Nat.ne_of_beq_eq_false hb), if_neg (by omega)]
      exact ⟨h1, h2, by omega, by omega⟩
theorem idxG_none : ∀ {O : List Nat} {b i : Nat}, idxG O b i = none → b ∉ O ∧ ∀ k, get (exV O k) b = none
  | [], b, i, h => ⟨by simp, fun k => rfl⟩
  | a :: O, b, i, h => by
    have h' : @Bool.rec (fun _ => Option Nat) (idxG O b (i + 1)) (some i) (Nat.beq a b) = none := h
    cases hb : Nat.beq a b with
    | true => rw [hb] at h'; cases h'
    | false =>
      rw [hb] at h'
      obtain ⟨h1, h2⟩ := idxG_none h'
      have hn := Nat.ne_of_beq_eq_false hb
      refine ⟨fun hm => ?_, fun k => ?_⟩
      · rcases List.mem_cons.1 hm with rfl | hm
        · exact hn rfl
        · exact h1 hm
      · simp only [exV, get]; rw [if_neg hn]; exact h2 _
theorem exS_snd : ∀ (O : List Nat) (k : Nat), (exS O k).map Prod.snd = O
  | [], k => rfl
  | a :: O, k => by simp only [exS, List.map, exS_snd O (k + 1)]
theorem exS_fst : ∀ (O : List Nat) (k j : Nat), k ≤ j → j < k + O.length → j ∈ (exS O k).map Prod.fst
  | [], k, j, h1, h2 => by simp at h2; omega
  | a :: O, k, j, h1, h2 => by
    simp only [exS, List.map, List.mem_cons]
    by_cases e : j = k
    · exact .inl e
    · refine .inr (exS_fst O (k + 1) j (by omega) ?_)
      simp only [List.length_cons] at h2; omega
abbrev TrOk (nm : Nat) (H : HX) (O : List Nat) (x y : X) : Prop := ∃ v, tr (decH H) (exS O 4) (exV O 4) x.dec = some v ∧ sh nm v = y.dec ∧ expA O.length v = true
theorem tr1X_ok {nm : Nat} {H : HX} {O : List Nat} {x y : X} (h : tr1X nm H O x = some y) : TrOk nm H O x y := by
  rcases iteO_some h with ⟨h1, h⟩ | ⟨_, h⟩
  · cases h
    rcases bits_2643 (Nat.mod_lt _ (by omega)) (bitT_eq h1) with e | e | e | e | e | e
    · exact ⟨x.dec, by rw [X.dec0 e]; rfl, by rw [X.dec0 e]; rfl, by rw [X.dec0 e]; rfl⟩
    · exact ⟨x.dec, by rw [X.dec1 e]; rfl, by rw [X.dec1 e]; rfl, by rw [X.dec1 e]; rfl⟩
    · exact ⟨x.dec, by rw [X.dec4 e]; simp only [tr], by rw [X.dec4 e]; simp only [sh], by rw [X.dec4 e]; simp only [expA]⟩
    · exact ⟨x.dec, by rw [X.dec6 e]; rfl, by rw [X.dec6 e]; rfl, by rw [X.dec6 e]; rfl⟩
    · exact ⟨x.dec, by rw [X.dec9 e]; simp only [tr], by rw [X.dec9 e]; simp only [sh], by rw [X.dec9 e]; simp only [expA]⟩
    · exact ⟨x.dec, by rw [X.dec11 e]; rfl, by rw [X.dec11 e]; rfl, by rw [X.dec11 e]; rfl⟩
  · rcases iteO_some h with ⟨h1, h⟩ | ⟨_, h⟩
    · cases hi : idxG O (oBn x) 0 with
      | none =>
        rw [hi] at h
        obtain ⟨p, hf, h⟩ := bO_some h
        obtain ⟨h2, h⟩ := ifO_some h
        obtain ⟨h3, h⟩ := ifO_some h
        obtain ⟨h4, h⟩ := ifO_some h
        cases h
        have hg := findX_some hf
        rw [XO.dec1 (Nat.eq_of_beq_eq_true h2)] at hg
        have h3 := Nat.eq_of_beq_eq_true h3
        have h4 : rK x + oLn x ≤ lenX p.l := Nat.le_of_ble_eq_true h4
        rw [lenX_eq] at h4
        obtain ⟨n1, n2⟩ := idxG_none hi
        have hc : ((exS O 4).map Prod.snd).contains (oBn x) = false := by
          rw [exS_snd]
          cases hcc : O.contains (oBn x) with
          | false => rfl
          | true => exact absurd (List.contains_iff_mem.1 hcc) n1
        refine ⟨.sl (rS x) (((decR p.l).drop (rK x)).take (oLn x)), ?_, ?_, ?_⟩
        · rw [isT8 h1]
          simp only [tr, n2 4, hc, cond_false, hg]
          rw [if_pos ⟨h3.symm, by rw [decR_len]; exact h4⟩]
        · rw [show (Nat.add (Nat.mul 16 (rS x)) 4) = 16 * rS x + 4 from rfl, dec_sl, takeX_eq, dropX_eq, decR_take, decR_drop]
          simp only [sh]
        · simp only [expA]
      | some i =>
        rw [hi] at h
        cases h
        obtain ⟨g1, g2, g3, g4⟩ := idxG_some hi
        refine ⟨.own (4 + i) (rS x) (rK x) (oLn x), ?_, ?_, ?_⟩
        · rw [isT8 h1]
          have hs : sendsB (exS O 4) (4 + i) (oBn x) = true := by
            have g2 : get (exS O 4) (4 + i) = some (oBn x) := g2
            simp only [sendsB, g2, beq_self_eq_true]
          have g1 : get (exV O 4) (oBn x) = some (4 + i) := g1
          simp only [tr, g1, hs, cond_true]
        · rw [show Nat.add nm i = nm + i from rfl, mkO_dec (by rw [rS_eq]; omega) (by rw [rK_eq]; omega) (by rw [oLn_eq]; omega)]
          simp only [sh]
          rw [show nm + (4 + i - 4) = nm + i by omega]
        · simp only [expA, Bool.and_eq_true, decide_eq_true_eq]
          omega
    · obtain ⟨h1, h⟩ := ifO_some h
      obtain ⟨h2, h⟩ := ifO_some h
      cases h
      have hd : x.dec = x.o := X.decE (.inr (by rw [isT_eq h1]; omega))
      exact ⟨x.o, by rw [hd]; exact tr_pure _ h2, by rw [hd]; exact sh_pure _ _ h2, expA_pure _ h2⟩
theorem trLX_ok {nm : Nat} {H : HX} {O : List Nat} {f : X → Option X} (hf : ∀ x y, f x = some y → TrOk nm H O x y) : ∀ {l ys : List X}, trLX f l = some ys →
    ∃ vs, trL (decH H) (exS O 4) (exV O 4) (decL l) = some vs ∧ shL nm vs = decL ys ∧ expL O.length vs = true
  | [], ys, h => by cases h; exact ⟨[], by simp only [decL, trL], by simp only [decL, shL], by simp only [expL]⟩
  | x :: l, ys, h => by
    obtain ⟨y, h1, h⟩ := bO_some (x := f x) h
    obtain ⟨ys', h2, h⟩ := bO_some (x := trLX f l) h
    cases h
    obtain ⟨v, g1, g2, g3⟩ := hf x y h1
    obtain ⟨vs, k1, k2, k3⟩ := trLX_ok hf h2
    exact ⟨v :: vs, by simp only [decL, trL, g1, k1], by simp only [decL, shL, g2, k2], by simp only [expL, g3, k3, Bool.and_self]⟩
theorem tr2X_ok {nm : Nat} {H : HX} {O : List Nat} {x y : X} (h : tr2X nm H O x = some y) : TrOk nm H O x y := by
  rcases iteO_some h with ⟨h1, h⟩ | ⟨_, h⟩
  · obtain ⟨ys, h2, h⟩ := bO_some h
    cases h
    obtain ⟨vs, k1, k2, k3⟩ := trLX_ok (fun x y => tr1X_ok) h2
    rw [TrOk, X.dec2 (isT_eq h1)]
    exact ⟨.agg vs, by simp only [tr, k1], by rw [dec_agg]; simp only [sh, k2], by simp only [expA, k3]⟩
  · exact tr1X_ok h
theorem trVX_ok {nm : Nat} {H : HX} {O : List Nat} {vs : List X} {y : X} (h : trVX nm H O vs = some y) : ∃ v, tr (decH H) (exS O 4) (exV O 4) (retOne (decL vs)) = some v ∧ sh nm v = y.dec ∧ expA O.length v = true := by
  cases vs with
  | nil =>
    cases h
    exact ⟨.tup [], by simp only [decL, retOne, tr, trL], by rw [dec_tup]; simp only [sh, shL, decL], by simp only [expA, expL]⟩
  | cons x l =>
    cases l with
    | nil =>
      obtain ⟨v, g1, g2, g3⟩ := tr2X_ok (show tr2X nm H O x = some y from h)
      exact ⟨v, by simp only [decL, retOne]; exact g1, g2, g3⟩
    | cons z l =>
      obtain ⟨ys, h2, h⟩ := bO_some (show bO (trLX (tr2X nm H O) (x :: z :: l)) (fun ys => some ⟨5, ys, oZ⟩) = some y from h)
      cases h
      obtain ⟨vs, k1, k2, k3⟩ := trLX_ok (fun x y => tr2X_ok) h2
      refine ⟨.tup vs, ?_, by rw [dec_tup]; simp only [sh, k2], by simp only [expA, k3]⟩
      simp only [decL, retOne] at k1 ⊢
      simp only [tr, k1]
theorem obsXX_ok : ∀ {O : List Nat} {H : HX} {nm : Nat} {u : HX}, obsXX H O nm = some u → ∃ es, obE (decH H) O = some es ∧ obsFrom nm es = decH u ∧ es.length = O.length
  | [], H, nm, u, h => by cases h; exact ⟨[], rfl, rfl, rfl⟩
  | b :: O, H, nm, u, h => by
    obtain ⟨p, h1, h⟩ := bO_some (show bO (findX H b) (fun p => ifO (Nat.beq p.k 1) (bO (obsXX H O (nm + 1)) fun l => some (⟨nm, 1, p.e, p.sz, p.l, .dead⟩ :: l))) = some u from h)
    obtain ⟨h2, h⟩ := ifO_some h
    obtain ⟨l, h3, h⟩ := bO_some h
    cases h
    obtain ⟨es, g1, g2, g3⟩ := obsXX_ok h3
    have hg := findX_some h1
    rw [XO.dec1 (Nat.eq_of_beq_eq_true h2)] at hg
    refine ⟨.row p.e p.sz (decR p.l) :: es, by simp only [obE, hg, g1], ?_, by simp [g3]⟩
    simp only [obsFrom, decH, g2, XO.decO]
theorem ndL_ok : ∀ {O : List Nat}, ndL O = true → O.Nodup
  | [], _ => List.nodup_nil
  | a :: O, h => by
    have h' : @Bool.rec (fun _ => Bool) (ndL O) false (memL a O) = true := h
    cases hm : memL a O with
    | true => rw [hm] at h'; cases h'
    | false =>
      rw [hm] at h'
      refine List.nodup_cons.2 ⟨fun hh => ?_, ndL_ok h'⟩
      have : ∀ {l : List Nat}, a ∈ l → memL a l = true := fun {l} hl => by
        induction l with
        | nil => simp at hl
        | cons b l ih =>
          simp only [memL]
          rcases List.mem_cons.1 hl with rfl | hl
          · rw [Nat.beq_refl]; rfl
          · rw [ih hl]; cases Nat.beq b a <;> rfl
      rw [this hh] at hm; cases hm
theorem lenN_eq : ∀ O : List Nat, lenN O = O.length
  | [] => rfl
  | a :: O => congrArg Nat.succ (lenN_eq O)
theorem obsFrom_fst : ∀ (es : List Ob) (k j : Nat), j ∈ (obsFrom k es).map Prod.fst → k ≤ j ∧ j < k + es.length
  | [], k, j, h => by simp [obsFrom] at h
  | e :: es, k, j, h => by
    simp only [obsFrom, List.map, List.mem_cons] at h
    simp only [List.length_cons]
    rcases h with rfl | h
    · omega
    · have := obsFrom_fst es (k + 1) j h; omega
theorem fEndO_ok {nm : Nat} {r : ROX} {O : List Nat} {e : XE} (h : fEndO nm r O = some e) : ∃ v es, finG 0 O (decL r.vs) (decH r.h) = some (v, [], es) ∧ sh nm v = e.v.dec ∧ obsFrom nm es = decH e.u ∧ (decide (es.length ≤ 8) && expA es.length v) = true := by
  obtain ⟨h1, h⟩ := ifO_some h
  obtain ⟨h2, h⟩ := ifO_some h
  obtain ⟨h3, h⟩ := ifO_some h
  obtain ⟨v, h4, h⟩ := bO_some h
  obtain ⟨u, h5, h⟩ := bO_some h
  cases h
  obtain ⟨v', g1, g2, g3⟩ := trVX_ok h4
  obtain ⟨es, k1, k2, k3⟩ := obsXX_ok h5
  rw [noLoX_eq] at h2
  have h3 := Nat.le_of_ble_eq_true h3
  rw [lenN_eq] at h3
  have hok : okS (decH r.h) (exS O 4) [] (outs [] es) = true := by
    simp only [okS, keep1, noLo_get h2 (show (0:Nat) < 4 by omega), noLo_get h2 (show (1:Nat) < 4 by omega), noLo_get h2 (show (2:Nat) < 4 by omega), noLo_get h2 (show (3:Nat) < 4 by omega), exS_snd, List.all_nil, Bool.true_and, Bool.and_true, Bool.and_eq_true, decide_eq_true_eq]
    refine ⟨ndL_ok h1, ?_⟩
    rw [List.all_eq_true]
    intro j hj
    simp only [outs, boxesFrom, List.map_nil, obsFrom, List.nil_append] at hj
    have := obsFrom_fst es 4 j hj
    rw [List.contains_iff_mem.2 (exS_fst O 4 j this.1 (by omega))]
    rfl
  refine ⟨v', es, ?_, g2, k2, by rw [k3]; simp only [Bool.and_eq_true, decide_eq_true_eq]; exact ⟨h3, g3⟩⟩
  simp only [finG, List.range_zero, Sid, List.map_nil, List.nil_append, g1, boxT, k1]
  rw [hok]
  rfl
mutual
theorem sh_exp0 (nm : Nat) : ∀ (v : AV), expA 0 v = true → sh nm v = v
  | .v _, _ => by simp only [sh]
  | .sl _ _, _ => by simp only [sh]
  | .pel _ _, _ => by simp only [sh]
  | .own k _ _ _, h => by simp only [expA, Bool.and_eq_true, decide_eq_true_eq] at h; omega
  | .ptr k _, h => by simp only [expA, Bool.and_eq_true, decide_eq_true_eq] at h; omega
  | .agg cs, h => by simp only [expA] at h; simp only [sh, shL_exp0 nm cs h]
  | .tup cs, h => by simp only [expA] at h; simp only [sh, shL_exp0 nm cs h]
  | .fn f cs, h => by simp only [expA] at h; simp only [sh, shL_exp0 nm cs h]
  | .rp .., h => by simp [expA] at h
  | .mp _, h => by simp [expA] at h
theorem shL_exp0 (nm : Nat) : ∀ (l : List AV), expL 0 l = true → shL nm l = l
  | [], _ => by simp only [shL]
  | c :: cs, h => by simp only [expL, Bool.and_eq_true] at h; simp only [shL, sh_exp0 nm c h.1, shL_exp0 nm cs h.2]
end
mutual
theorem na_sh (nm : Nat) : ∀ (v : AV), na (sh nm v) = na v
  | .v _ => by simp only [sh]
  | .sl _ _ => by simp only [sh]
  | .pel _ _ => by simp only [sh]
  | .own .. => by simp only [sh, na]
  | .ptr .. => by simp only [sh, na]
  | .agg cs => by simp only [sh, na, naL_sh nm cs]
  | .tup cs => by simp only [sh, na, naL_sh nm cs]
  | .fn f cs => by simp only [sh, na, naL_sh nm cs]
  | .rp .. => by simp only [sh]
  | .mp _ => by simp only [sh]
theorem naL_sh (nm : Nat) : ∀ (l : List AV), naL (shL nm l) = naL l
  | [] => by simp only [shL]
  | c :: cs => by simp only [shL, naL, na_sh nm c, naL_sh nm cs]
end
mutual
theorem deep_pure : ∀ (x : AV), x.pure = true → deep x = []
  | .v _, _ => by simp only [deep]
  | .sl _ _, _ => by simp only [deep]
  | .pel _ _, _ => by simp only [deep]
  | .agg cs, h => by simp only [deep, deepL_pure cs (by simpa only [AV.pure] using h)]
  | .tup cs, h => by simp only [deep, deepL_pure cs (by simpa only [AV.pure] using h)]
  | .fn _ cs, h => by simp only [deep, deepL_pure cs (by simpa only [AV.pure] using h)]
  | .own .., h => by simp [AV.pure] at h
  | .ptr .., h => by simp [AV.pure] at h
  | .rp .., h => by simp [AV.pure] at h
  | .mp .., h => by simp [AV.pure] at h
theorem deepL_pure : ∀ (l : List AV), pureL l = true → deepL l = []
  | [], _ => by simp only [deepL]
  | c :: cs, h => by
    simp only [pureL, Bool.and_eq_true] at h
    simp only [deepL, deep_pure c h.1, deepL_pure cs h.2, List.append_nil]
end
theorem tr1_deep {H : HX} {nm : Nat} {x y : X} (h : tr1X nm H [] x = some y) : deep x.dec = if isT x 8 = true then [oBn x] else [] := by
  rcases iteO_some h with ⟨h1, h⟩ | ⟨_, h⟩
  · have key : isT x 8 = false := by
      cases h8 : isT x 8 with
      | false => rfl
      | true =>
        have e8 := isT_eq h8
        have := bitT_eq h1
        rw [e8] at this
        simp at this
    rw [key]
    rcases bits_2643 (Nat.mod_lt _ (by omega)) (bitT_eq h1) with e | e | e | e | e | e
    · rw [X.dec0 e]; rfl
    · rw [X.dec1 e]; rfl
    · rw [X.dec4 e]; simp only [deep]; rfl
    · rw [X.dec6 e]; rfl
    · rw [X.dec9 e]; simp only [deep]; rfl
    · rw [X.dec11 e]; rfl
  · rcases iteO_some h with ⟨h1, h⟩ | ⟨h8, h⟩
    · rw [isT8 h1, h1]; simp only [deep]; rfl
    · obtain ⟨h1, h⟩ := ifO_some h
      obtain ⟨h2, h⟩ := ifO_some h
      have hd : x.dec = x.o := X.decE (.inr (by rw [isT_eq h1]; omega))
      rw [hd, h8, deep_pure _ h2]; rfl
theorem tr1L_deep {H : HX} {nm : Nat} : ∀ {l ys : List X}, trLX (tr1X nm H []) l = some ys → deepL (decL l) = nm1X l
  | [], ys, h => by simp only [decL, deepL]; rfl
  | x :: l, ys, h => by
    obtain ⟨y, h1, h⟩ := bO_some (x := tr1X nm H [] x) h
    obtain ⟨ys', h2, h⟩ := bO_some (x := trLX (tr1X nm H []) l) h
    have e : nm1X (x :: l) = @Bool.rec (fun _ => List Nat) (nm1X l) (oBn x :: nm1X l) (isT x 8) := rfl
    rw [e]
    simp only [decL, deepL, tr1_deep h1, tr1L_deep h2]
    cases isT x 8 <;> rfl
theorem appN_eq : ∀ (l m : List Nat), appN l m = l ++ m
  | [], m => rfl
  | a :: l, m => congrArg (a :: ·) (appN_eq l m)
theorem tr2L_deep {H : HX} {nm : Nat} : ∀ {l ys : List X}, trLX (tr2X nm H []) l = some ys → deepL (decL l) = nmsX l
  | [], ys, h => by simp only [decL, deepL]; rfl
  | x :: l, ys, h => by
    obtain ⟨y, h1, h⟩ := bO_some (x := tr2X nm H [] x) h
    obtain ⟨ys', h2, h⟩ := bO_some (x := trLX (tr2X nm H []) l) h
    have e : nmsX (x :: l) = @Bool.rec (fun _ => List Nat) (@Bool.rec (fun _ => List Nat) (nmsX l) (oBn x :: nmsX l) (isT x 8)) (appN (nm1X x.l) (nmsX l)) (isT x 2) := rfl
    rw [e]
    simp only [decL, deepL, tr2L_deep h2]
    rcases iteO_some h1 with ⟨h3, h1⟩ | ⟨h3, h1⟩
    · obtain ⟨zs, h4, h1⟩ := bO_some h1
      rw [X.dec2 (isT_eq h3), h3]
      simp only [deep, tr1L_deep h4, appN_eq]
    · rw [h3, tr1_deep h1]
      cases isT x 8 <;> rfl
theorem bits_2371 {t : Nat} (hl : t < 16) (h : (2371 >>> t) % 2 = 1) : t = 0 ∨ t = 1 ∨ t = 6 ∨ t = 8 ∨ t = 11 := by
  have ht : t = 0 ∨ t = 1 ∨ t = 2 ∨ t = 3 ∨ t = 4 ∨ t = 5 ∨ t = 6 ∨ t = 7 ∨ t = 8 ∨ t = 9 ∨ t = 10 ∨ t = 11 ∨ t = 12 ∨ t = 13 ∨ t = 14 ∨ t = 15 := by omega
  rcases ht with rfl | rfl | rfl | rfl | rfl | rfl | rfl | rfl | rfl | rfl | rfl | rfl | rfl | rfl | rfl | rfl <;> first | omega | (exfalso; revert h; decide)
theorem na1X_ok {x : X} (h : na1X x = true) : na x.dec = true := by
  unfold na1X at h
  cases hb : bitT 2371 x with
  | true =>
    rcases bits_2371 (Nat.mod_lt _ (by omega)) (bitT_eq hb) with e | e | e | e | e
    · rw [X.dec0 e]; rfl
    · rw [X.dec1 e]; rfl
    · rw [X.dec6 e]; rfl
    · rw [X.dec8 e]; simp only [na]
    · rw [X.dec11 e]; rfl
  | false =>
    rw [hb] at h
    cases h15 : isT x 15 with
    | false => rw [h15] at h; cases h
    | true =>
      rw [h15] at h
      rw [X.decE (.inr (by rw [isT_eq h15]; omega))]
      cases ho : x.o with
      | v a => simp only [na]
      | _ => rw [ho] at h; cases h
theorem allna_ok {p : X → Bool} (hp : ∀ x, p x = true → na x.dec = true) : ∀ {l : List X}, allX p l = true → naL (decL l) = true
  | [], _ => by simp [decL, naL]
  | x :: l, h => by
    obtain ⟨h1, h2⟩ := allX_cons h
    simp only [decL, naL, hp x h1, allna_ok hp h2, Bool.and_self]
theorem na2X_ok {x : X} (h : na2X x = true) : na x.dec = true := by
  unfold na2X at h
  cases hb : isT x 2 with
  | true => rw [hb] at h; rw [X.dec2 (isT_eq hb)]; simp only [na]; exact allna_ok (fun _ => na1X_ok) h
  | false => rw [hb] at h; exact na1X_ok h
theorem na3X_ok {x : X} (h : na3X x = true) : na x.dec = true := by
  unfold na3X at h
  cases hb : isT x 5 with
  | true => rw [hb] at h; rw [X.dec5 (isT_eq hb)]; simp only [na]; exact allna_ok (fun _ => na2X_ok) h
  | false => rw [hb] at h; exact na2X_ok h
theorem naRow_ok : ∀ {l : List X}, allX (fun e => allX na1X e.l) l = true → (decR l).all naL = true
  | [], _ => by simp [decR]
  | ⟨_, c, _⟩ :: l, h => by
    obtain ⟨h1, h2⟩ := allX_cons h
    simp only [decR, List.all_cons, allna_ok (fun _ => na1X_ok) h1, naRow_ok h2, Bool.and_self]
theorem naRX_ok : ∀ {u : HX}, naRX u = true → ((decH u).map Prod.snd).all naB = true
  | [], _ => by simp [decH]
  | p :: u, h => by
    have h' : @Bool.rec (fun _ => Bool) false (@Bool.rec (fun _ => Bool) false (naRX u) (allX (fun e => allX na1X e.l) p.l)) (Nat.beq p.k 1) = true := h
    cases hk : Nat.beq p.k 1 with
    | false => rw [hk] at h'; cases h'
    | true =>
      rw [hk] at h'
      cases hr : allX (fun e => allX na1X e.l) p.l with
      | false => rw [hr] at h'; cases h'
      | true =>
        rw [hr] at h'
        simp only [decH, List.map, List.all_cons, naRX_ok h', Bool.and_true]
        rw [XO.dec1 (Nat.eq_of_beq_eq_true hk)]
        exact naRow_ok hr
theorem obsFrom_snd : ∀ (es : List Ob) (k : Nat), (obsFrom k es).map Prod.snd = es
  | [], k => rfl
  | e :: es, k => by simp only [obsFrom, List.map, obsFrom_snd es (k + 1)]
theorem rowsX_ok {H : HX} : ∀ {Z : List Nat}, rowsX H Z = true → rowsAt (decH H) Z = true
  | [], _ => rfl
  | b :: Z, h => by
    have h' : @Option.rec XO (fun _ => Bool) false (fun p => @Bool.rec (fun _ => Bool) false (rowsX H Z) (Nat.beq p.k 1)) (findX H b) = true := h
    cases hf : findX H b with
    | none => rw [hf] at h'; cases h'
    | some p =>
      rw [hf] at h'
      simp only at h'
      cases hk : Nat.beq p.k 1 with
      | false => rw [hk] at h'; cases h'
      | true =>
        rw [hk] at h'
        have hg := findX_some hf
        rw [XO.dec1 (Nat.eq_of_beq_eq_true hk)] at hg
        simp only [rowsAt, hg, rowsX_ok h', Bool.and_self]
theorem killX_dec : ∀ (Z : List Nat), decH (killX Z) = kills Z
  | [] => rfl
  | b :: Z => by
    have e : killX (b :: Z) = ⟨b, 2, 0, 0, [], .dead⟩ :: killX Z := rfl
    rw [e]
    simp only [decH, killX_dec Z, kills, List.map, XO.decO]
theorem appH_dec : ∀ (l m : HX), decH (appH l m) = decH l ++ decH m
  | [], m => rfl
  | p :: l, m => by
    have e : appH (p :: l) m = p :: appH l m := rfl
    rw [e]
    simp only [decH, appH_dec l m, List.cons_append]
theorem impX_ok {P : Program} {run : RunX} (hrun : RunXOk P run) {n nm : Nat} {H : HX} {f : FuncId} {ys : List X} {c : XC} (h : impX run n nm H f ys = some c) :
    ∃ u rd, HEq' (u ++ decH H) (decH c.H) ∧ (Valid P c.O → CallD P nm f (decL ys) (decH H) ⟨c.v.dec, u, rd⟩) := by
  obtain ⟨zs, h1, h⟩ := bO_some h
  obtain ⟨hp, h⟩ := ifO_some h
  obtain ⟨r, h2, h⟩ := bO_some h
  obtain ⟨e, h3, h⟩ := bO_some h
  obtain ⟨vs, h', o, dp⟩ := r
  have hpl := purL_ok hp
  obtain ⟨zs', t1, t2, t3⟩ := trLX_ok (fun x y => tr2X_ok) h1
  rw [shL_exp0 0 zs' t3] at t2
  subst t2
  have ha : rvL (decH H) [] [] (decL zs) (decL ys) := trL_rv _ _ t1
  obtain ⟨v, es, hF, g1, g2, hc⟩ := fEndO_ok h3
  have hfn : Valid P o → Fn P f (decL zs) [] v [] es ∧ es.all rowOk = true := fun hv => by
    obtain ⟨t, res, hrv, hrun'⟩ := hrun _ _ _ _ _ _ _ _ h2 hv
    obtain ⟨hFin, hl, hes⟩ := finG_ok hrv hF
    exact ⟨(hrun' _ _ _ hFin).toFn, hes⟩
  simp only [Bool.and_eq_true, decide_eq_true_eq] at hc
  rcases iteO_some h with ⟨h4, h⟩ | ⟨_, h⟩
  · cases h
    have h5 : na3X e.v = true ∧ naRX e.u = true := by
      cases hn : na3X e.v with
      | false => rw [hn] at h4; cases h4
      | true => rw [hn] at h4; exact ⟨rfl, h4⟩
    refine ⟨obsFrom nm es, deepL (decL ys), ?_, fun hv => ?_⟩
    · rw [g2]; exact upX_get (fun _ => rfl) n e.u
    · obtain ⟨hFn, hes⟩ := hfn hv
      have hn1 : na v = true := by rw [← na_sh nm v, g1]; exact na3X_ok h5.1
      have hn2 : ∀ o ∈ es, naB o = true := by
        have := naRX_ok h5.2
        rw [← g2, obsFrom_snd, List.all_eq_true] at this
        exact this
      rw [← g1]
      exact hFn.callS nm ha hes (fun o ho => naB_ok (hn2 o ho)) hc.1 hc.2 hn1
  · obtain ⟨h5, h⟩ := ifO_some h
    cases h
    refine ⟨obsFrom nm es ++ kills (deepL (decL ys)), deepL (decL ys), ?_, fun hv => ?_⟩
    · have := upX_get (h := decH H) (H := H) (fun _ => rfl) n (appH e.u (killX (nmsX ys)))
      rw [appH_dec, killX_dec, ← g2] at this
      rw [tr2L_deep h1]
      exact this
    · obtain ⟨hFn, hes⟩ := hfn hv
      have h5 := rowsX_ok h5
      rw [← tr2L_deep h1] at h5
      rw [← g1]
      intro h2 hh Q hQ
      refine wpCall_fz (deepL (decL ys)) (fun b hb => ?_) (rvL_stay (h := decH H) hh _ _ (fun b hb => hb) ha) ?_
      · obtain ⟨e1, sz, xs1, hx1⟩ := rowsAt_get _ h5 b hb
        exact ⟨e1, sz, xs1, by rw [hh b hb]; exact hx1⟩
      · exact (hFn.callE (h := kills (deepL (decL ys)) ++ h2) hpl hes hc.1 hc.2) _ (fun _ _ => rfl) Q (by simpa only [List.append_assoc] using hQ)
theorem bx1_ok {b : Nat} : ∀ {ys xs : List X}, trLX (bx1 b) ys = some xs → argsR [b] (decL xs) (decL ys)
  | [], xs, h => by cases h; simp only [decL, argsR]
  | y :: ys, xs, h => by
    obtain ⟨x, h1, h⟩ := bO_some (x := bx1 b y) h
    obtain ⟨xs', h2, h⟩ := bO_some (x := trLX (bx1 b) ys) h
    cases h
    have ih := bx1_ok h2
    rcases iteO_some h1 with ⟨h3, h1⟩ | ⟨_, h1⟩
    · obtain ⟨h4, h1⟩ := ifO_some h1
      cases h1
      have hj : pJ y < 1024 := by rw [pJ_eq]; omega
      have e1 : (X.mk (Nat.add (Nat.mul 16 (pJ y)) 7) [] oZ).dec = .ptr 0 (pJ y) := by
        have := dec_ptr 0 (pJ y) hj [] oZ
        rw [show 16384 * 0 + 16 * pJ y + 7 = Nat.add (Nat.mul 16 (pJ y)) 7 by show _ = 16 * pJ y + 7; omega] at this
        exact this
      simp only [decL, argsR, e1, isT7 h3, Nat.eq_of_beq_eq_true h4, List.getElem?_cons_zero]
      exact ⟨trivial, ih⟩
    · obtain ⟨h4, h1⟩ := ifO_some h1
      cases h1
      have hp := argsR_pure (A := [b]) [y.dec] (by simp only [pureL, pur1_ok h4, Bool.and_true])
      simp only [argsR] at hp
      simp only [decL, argsR]
      exact ⟨hp.1, ih⟩
theorem lo1_get : ∀ {h : HX} {b : Nat}, lo1 h = true → b < 4 → b ≠ 0 → get (decH h) b = none
  | [], b, _, _, _ => rfl
  | p :: l, b, h, hb, hn => by
    have h' : @Bool.rec (fun _ => Bool) (@Bool.rec (fun _ => Bool) false (lo1 l) (Nat.beq p.b 0)) (lo1 l) (Nat.ble 4 p.b) = true := h
    simp only [decH, get]
    cases h4 : Nat.ble 4 p.b with
    | true =>
      rw [h4] at h'
      have := Nat.le_of_ble_eq_true h4
      rw [if_neg (by omega)]
      exact lo1_get h' hb hn
    | false =>
      rw [h4] at h'
      cases h0 : Nat.beq p.b 0 with
      | false => simp only [h0] at h'; cases h'
      | true =>
        simp only [h0] at h'
        have := Nat.eq_of_beq_eq_true h0
        rw [if_neg (by omega)]
        exact lo1_get h' hb hn
theorem boxC_ok {P : Program} {run : RunX} (hrun : RunXOk P run) {nm : Nat} {H : HX} {f : FuncId} {ys : List X} {c : XC} (h : boxC run H f ys = some c) :
    ∃ u rd, HEq' (u ++ decH H) (decH c.H) ∧ (Valid P c.O → CallD P nm f (decL ys) (decH H) ⟨c.v.dec, u, rd⟩) := by
  obtain ⟨b, h1, h⟩ := bO_some h
  obtain ⟨xs, h2, h⟩ := bO_some h
  obtain ⟨p, h3, h⟩ := bO_some h
  obtain ⟨h4, h⟩ := ifO_some h
  obtain ⟨h5, h⟩ := ifO_some h
  obtain ⟨r, h6, h⟩ := bO_some h
  obtain ⟨h7, h⟩ := ifO_some h
  obtain ⟨h8, h⟩ := ifO_some h
  obtain ⟨q, h9, h⟩ := bO_some h
  obtain ⟨h10, h⟩ := ifO_some h
  obtain ⟨h11, h⟩ := ifO_some h
  cases h
  obtain ⟨vs, h', o, dp⟩ := r
  have hg := findX_some h3
  rw [XO.dec0 (Nat.eq_of_beq_eq_true h4)] at hg
  have hq := findX_some h9
  rw [XO.dec0 (Nat.eq_of_beq_eq_true h10)] at hq
  have hpv := purL_ok h7
  have hpr : (retOne (decL vs)).pure = true := by
    unfold retOne
    split
    · rename_i e; rw [e] at hpv; simpa [pureL] using hpv
    · simpa [AV.pure] using hpv
  have hp1 := purL_ok h5
  have hp2 := purL_ok h11
  refine ⟨[(b, .box (decL q.l))], [b], ?_, fun hv => ?_⟩
  · have := replX_get H b ⟨b, 0, 0, 0, q.l, .dead⟩ rfl
    rw [show (XO.mk b 0 0 0 q.l .dead).decO = .box (decL q.l) from XO.dec0 rfl] at this
    exact this
  · obtain ⟨t, res, hrv, hrun'⟩ := hrun _ _ _ _ _ _ _ _ h6 hv
    have hk : okS (decH h') [(0, 0)] [] [(0, .box (decL q.l))] = true := by
      simp only [okS, keep1, lo1_get h8 (show (1:Nat) < 4 by omega) (by omega), lo1_get h8 (show (2:Nat) < 4 by omega) (by omega), lo1_get h8 (show (3:Nat) < 4 by omega) (by omega), hq]
      simp [get]
    have hF := (hrun' _ _ _ (Fin.eq1 (decL vs) hrv hq hk hpr hp2 rfl rfl)).toFn
    have hC := hF.callD (h := decH H) nm [b] [decL q.l] (bx1_ok h2) (by simp only [List.map, boxesR, and_true, hg]; exact argsR_pure _ hp1) (by simp) (by simp) rfl (argsLL_pure [decL q.l] (by simp only [pureLL, hp2, Bool.and_true])) rfl (by simp) (expA_pure _ hpr)
    rw [sh_pure nm _ hpr] at hC
    rw [retX_dec]
    exact hC
theorem callQ_some {P : Program} {run : RunX} (hrun : RunXOk P run) {n nm : Nat} {H : HX} {f : FuncId} {ys : List X} {O : List Use} {k : KX} {r} (h : callQ run n nm H f ys O k = some r) :
    ∃ y o rd, k y H (apO o O) = some r ∧ (purL ys = true → rd = []) ∧ (Valid P o → CallD P nm f (decL ys) (decH H) ⟨y.dec, [], rd⟩) := by
  unfold callQ at h
  cases hq : quiX run nm H f ys with
  | none => rw [hq] at h; cases h
  | some c =>
    rw [hq] at h
    obtain ⟨zs, h1, hq⟩ := bO_some hq
    obtain ⟨r0, h2, hq⟩ := bO_some hq
    obtain ⟨e, h3, hq⟩ := bO_some hq
    obtain ⟨h4, hq⟩ := ifO_some hq
    obtain ⟨h5, hq⟩ := ifO_some hq
    cases hq
    obtain ⟨vs, h', o, dp⟩ := r0
    obtain ⟨v, es, hF, g1, g2, hc⟩ := fEndO_ok h3
    have hu : e.u = [] := by
      cases hu : e.u with
      | nil => rfl
      | cons a l => rw [hu] at h4; cases h4
    have hes0 : es = [] := by
      rw [hu] at g2
      cases es with
      | nil => rfl
      | cons a l => simp [obsFrom, decH] at g2
    subst hes0
    simp only [Bool.and_eq_true, decide_eq_true_eq] at hc
    have hfn : ∀ zs, run f zs [] [] = some ⟨vs, h', o, dp⟩ → Valid P o → Fn P f (decL zs) [] v [] [] := fun zs h2 hv => by
      obtain ⟨t, res, hrv, hrun'⟩ := hrun _ _ _ _ _ _ _ _ h2 hv
      obtain ⟨hFin, hl, hes⟩ := finG_ok hrv hF
      exact (hrun' _ _ _ hFin).toFn
    cases hp : purL ys with
    | true =>
      unfold argQ at h1
      rw [hp] at h1
      cases h1
      refine ⟨_, o, [], h, fun _ => rfl, fun hv => ?_⟩
      rw [← g1]
      exact (hfn ys h2 hv).callE (purL_ok hp) (by simp) (by simp) hc.2
    | false =>
      unfold argQ at h1
      rw [hp] at h1 h5
      obtain ⟨zs2, t0, h1⟩ := bO_some h1
      obtain ⟨hpz, h1⟩ := ifO_some h1
      cases h1
      obtain ⟨zs', t1, t2, t3⟩ := trLX_ok (fun x y => tr2X_ok) t0
      rw [shL_exp0 0 zs' t3] at t2
      subst t2
      have ha : rvL (decH H) [] [] (decL zs) (decL ys) := trL_rv _ _ t1
      refine ⟨_, o, deepL (decL ys), h, fun e => (by cases e), fun hv => ?_⟩
      have hn1 : na v = true := by rw [← na_sh nm v, g1]; exact na3X_ok h5
      rw [← g1]
      exact (hfn zs h2 hv).callS nm ha (by simp) (fun o ho => by simp at ho) (by simp) hc.2 hn1
theorem callX'_some {P : Program} {run : RunX} (hrun : RunXOk P run) {n nm : Nat} {H : HX} {f : FuncId} {ys : List X} {O : List Use} {k : KX} {r} (h : callX' run n nm H f ys O k = some r) :
    ∃ y H' o u rd, k y H' (apO o O) = some r ∧ HEq' (u ++ decH H) (decH H') ∧ (Valid P o → CallD P nm f (decL ys) (decH H) ⟨y.dec, u, rd⟩) := by
  have up : ∀ u : Hp, HEq' (u ++ decH H) (decH (upX n (encH u) H)) := fun u => by
    have := upX_get (h := decH H) (H := H) (fun _ => rfl) n (encH u)
    rw [encH_dec] at this
    exact this
  unfold callX' at h
  cases hp : purL ys with
  | false =>
    rw [hp] at h
    cases hi : impX run n nm H f ys with
    | some c =>
      rw [hi] at h
      obtain ⟨u, rd, g1, g2⟩ := impX_ok hrun hi
      exact ⟨_, _, _, u, rd, h, g1, g2⟩
    | none =>
    rw [hi] at h
    cases hbc : boxC run H f ys with
    | some c =>
      simp only [hbc] at h
      obtain ⟨u, rd, g1, g2⟩ := boxC_ok (nm := nm) hrun hbc
      exact ⟨_, _, _, u, rd, h, g1, g2⟩
    | none =>
    simp only [hbc] at h
    simp only [slowX] at h
    split at h
    · rename_i r0 o he
      refine ⟨_, _, o, r0.upd, r0.rd, h, up _, fun hv => ?_⟩
      rw [enc_dec]
      exact callXO_ok (toO_ok hrun) he hv
    · cases h
  | true =>
    rw [hp] at h
    have hpl := purL_ok hp
    cases hr : run f ys [] [] with
    | none => rw [hr] at h; cases h
    | some r0 =>
      rw [hr] at h
      obtain ⟨vs, h', o, dp⟩ := r0
      have hto : toO (fun f xs bs gs => run f ys [] []) f (decL ys) [] [] = some ⟨decL vs, decH h', o, dp⟩ := by simp only [toO, hr]
      have hrO : Valid P o → ∃ t res, retV t (decH h') res = some (decL vs) ∧ ∀ r bs' es, Fin res r bs' es t (decH h') → FnG P f (decL ys) [] [] r bs' es := fun hv => by
        obtain ⟨t, res, h1, h2⟩ := hrun _ _ _ _ _ _ _ _ hr hv
        exact ⟨t, res, h1, h2⟩
      -- a run that answers as this one does, at these arguments alone
      let run1 : RunO := fun g xs bs gs => open Classical in if g = f ∧ xs = decL ys ∧ bs = [] ∧ gs = [] then some ⟨decL vs, decH h', o, dp⟩ else none
      have hrun1 : RunOOk P run1 := by
        intro g xs bs gs vs1 h1 O1 dp1 e hv
        simp only [run1] at e
        split at e
        · rename_i hc
          obtain ⟨rfl, rfl, rfl, rfl⟩ := hc
          simp only [Option.some.injEq, RO.mk.injEq] at e
          obtain ⟨rfl, rfl, rfl, rfl⟩ := e
          exact hrO hv
        · cases e
      have he1 : run1 f (decL ys) [] [] = some ⟨decL vs, decH h', o, dp⟩ := by simp only [run1, and_self, if_true]
      have slow : endX n nm H ⟨vs, h', o, dp⟩ O k = some r → ∃ y H' o u rd, k y H' (apO o O) = some r ∧ HEq' (u ++ decH H) (decH H') ∧ (Valid P o → CallD P nm f (decL ys) (decH H) ⟨y.dec, u, rd⟩) := fun h => by
        simp only [endX] at h
        split at h
        · rename_i v bs es hF
          generalize hc : (decide (es.length ≤ 8) && expA es.length v) = q at h
          cases q with
          | false => cases h
          | true =>
            refine ⟨_, _, o, _, [], h, up _, fun hv => ?_⟩
            rw [enc_dec]
            exact callP0_ok hrun1 hpl he1 hv hF hc
        · cases h
      have slow : endXX n nm H ⟨vs, h', o, dp⟩ O k = some r → ∃ y H' o u rd, k y H' (apO o O) = some r ∧ HEq' (u ++ decH H) (decH H') ∧ (Valid P o → CallD P nm f (decL ys) (decH H) ⟨y.dec, u, rd⟩) := fun h => by
        unfold endXX at h
        cases hfe : fEnd nm ⟨vs, h', o, dp⟩ with
        | none => rw [hfe] at h; exact slow h
        | some e =>
          rw [hfe] at h
          obtain ⟨v, es, hF, g1, g2, hc⟩ := fEndO_ok hfe
          refine ⟨_, _, o, obsFrom nm es, [], h, ?_, fun hv => ?_⟩
          · have := up (obsFrom nm es)
            have e1 := upX_get (h := decH H) (H := H) (fun _ => rfl) n e.u
            rw [g2]; exact e1
          · rw [← g1]
            exact callP0_ok hrun1 hpl he1 hv hF hc
      cases hq : purL vs with
      | false => simp only [hq] at h; exact slow h
      | true =>
        simp only [hq] at h
        cases hlo : noLoX h' with
        | false => simp only [hlo] at h; exact slow h
        | true =>
          simp only [hlo] at h
          refine ⟨_, _, o, [], [], h, fun _ => rfl, fun hv => ?_⟩
          rw [retX_dec]
          rw [noLoX_eq] at hlo
          exact callP1_ok hrun1 hpl he1 hv (purL_ok hq) hlo
end Go.Eng
