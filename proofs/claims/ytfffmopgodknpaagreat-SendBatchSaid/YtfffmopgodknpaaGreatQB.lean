/-
  The string that a reader draws: what the function does.
  The list lies in memory.
-/
import Derived.Test.YtfffmopgodknpaaGreatQB0
set_option linter.unusedVariables false
namespace Go.M
open Go Go.Proofs
theorem mpB {p q : Prop} (h : p = q) (hq : q) : p := h ▸ hq
theorem i0B {n : Nat} : dvX ⟨13, [], .int .i64 (n : Int)⟩ = some (.int .i64 (n : Int)) := by kernel_rfl
theorem bodyL_ok [l : Lst] : FcOk Tryz.prog 25 (fcBody lst1 n0L zsL) := fcBody_ok ok25.enters lst1_one fun b i e w w0 hΦ ho hb hs0 hbw h1 h2 h3 hw hi => by
  have hf : FcOk Tryz.prog 25 (exF hkL fun25) := law_ok hkL_ok ok25
  generalize he : exF hkL fun25 = fe at hf
  obtain ⟨n, hn, hn4⟩ := drw_case zsL n0L i 4 (by omega)
  have q1 := nxt_le hi
  have q2 := nxt_le q1
  have q3 := nxt_le q2
  obtain ⟨v1, d1, b1⟩ := drw_case zsL n0L (nxt n0L i) 3 (by omega)
  obtain ⟨v2, d2, b2⟩ := drw_case zsL n0L (nxt n0L (nxt n0L i)) 3 (by omega)
  obtain ⟨v3, d3, b3⟩ := drw_case zsL n0L (nxt n0L (nxt n0L (nxt n0L i))) 3 (by omega)
  have hN : bodyN zsL n0L i = bdn n0L n (nxt n0L i) := by simp only [bodyN, hn, Int.toNat_natCast]
  have hS : bodyS zsL n0L i = ⟨(bdl zsL n0L n (nxt n0L i)).toArray⟩ := by simp only [bodyS, hn, Int.toNat_natCast]
  rw [hN, hS]
  have cn : n = 0 ∨ n = 1 ∨ n = 2 ∨ n = 3 := by omega
  have cv : ∀ {v : Nat}, v < 3 → v = 0 ∨ v = 1 ∨ v = 2 := fun h => by omega
  rcases cn with rfl | rfl | rfl | rfl
  · skip
    have hs : (⟨(bdl zsL n0L 0 (nxt n0L i)).toArray⟩ : ByteArray) = ⟨#[]⟩ := by rfl
    have hr := b_0 (i : Nat) ((nxt n0L i) : Nat)
    rw [he] at hr
    rw [hs]
    exact body_calls hf (i := i) (i' := bdn n0L 0 (nxt n0L i)) (mpB hr ⟨rfl, rfl, drawF_ok i0B hi hn rfl rfl, trivial, trivial⟩) b e w w0 hΦ ho hb hs0 hbw h1 h2 h3 hw
  · skip
    rcases cv b1 with rfl | rfl | rfl
    · skip
      have hs : (⟨(bdl zsL n0L 1 (nxt n0L i)).toArray⟩ : ByteArray) = ⟨#[97]⟩ := by simp only [bdl, d1, Int.toNat_natCast]; rfl
      have hr := b_1_0 (i : Nat) ((nxt n0L i) : Nat) ((nxt n0L (nxt n0L i)) : Nat)
      rw [he] at hr
      rw [hs]
      exact body_calls hf (i := i) (i' := bdn n0L 1 (nxt n0L i)) (mpB hr ⟨rfl, rfl, drawF_ok i0B q1 d1 rfl rfl, trivial, drawF_ok i0B hi hn rfl rfl, trivial, trivial⟩) b e w w0 hΦ ho hb hs0 hbw h1 h2 h3 hw
    · skip
      have hs : (⟨(bdl zsL n0L 1 (nxt n0L i)).toArray⟩ : ByteArray) = ⟨#[98]⟩ := by simp only [bdl, d1, Int.toNat_natCast]; rfl
      have hr := b_1_1 (i : Nat) ((nxt n0L i) : Nat) ((nxt n0L (nxt n0L i)) : Nat)
      rw [he] at hr
      rw [hs]
      exact body_calls hf (i := i) (i' := bdn n0L 1 (nxt n0L i)) (mpB hr ⟨rfl, rfl, drawF_ok i0B q1 d1 rfl rfl, trivial, drawF_ok i0B hi hn rfl rfl, trivial, trivial⟩) b e w w0 hΦ ho hb hs0 hbw h1 h2 h3 hw
    · skip
      have hs : (⟨(bdl zsL n0L 1 (nxt n0L i)).toArray⟩ : ByteArray) = ⟨#[99]⟩ := by simp only [bdl, d1, Int.toNat_natCast]; rfl
      have hr := b_1_2 (i : Nat) ((nxt n0L i) : Nat) ((nxt n0L (nxt n0L i)) : Nat)
      rw [he] at hr
      rw [hs]
      exact body_calls hf (i := i) (i' := bdn n0L 1 (nxt n0L i)) (mpB hr ⟨rfl, rfl, drawF_ok i0B q1 d1 rfl rfl, trivial, drawF_ok i0B hi hn rfl rfl, trivial, trivial⟩) b e w w0 hΦ ho hb hs0 hbw h1 h2 h3 hw
  · skip
    rcases cv b1 with rfl | rfl | rfl
    · skip
      rcases cv b2 with rfl | rfl | rfl
      · skip
        have hs : (⟨(bdl zsL n0L 2 (nxt n0L i)).toArray⟩ : ByteArray) = ⟨#[97, 97]⟩ := by simp only [bdl, d1, d2, Int.toNat_natCast]; rfl
        have hr := b_2_0_0 (i : Nat) ((nxt n0L i) : Nat) ((nxt n0L (nxt n0L i)) : Nat) ((nxt n0L (nxt n0L (nxt n0L i))) : Nat)
        rw [he] at hr
        rw [hs]
        exact body_calls hf (i := i) (i' := bdn n0L 2 (nxt n0L i)) (mpB hr ⟨rfl, rfl, drawF_ok i0B q2 d2 rfl rfl, trivial, drawF_ok i0B q1 d1 rfl rfl, trivial, drawF_ok i0B hi hn rfl rfl, trivial, trivial⟩) b e w w0 hΦ ho hb hs0 hbw h1 h2 h3 hw
      · skip
        have hs : (⟨(bdl zsL n0L 2 (nxt n0L i)).toArray⟩ : ByteArray) = ⟨#[97, 98]⟩ := by simp only [bdl, d1, d2, Int.toNat_natCast]; rfl
        have hr := b_2_0_1 (i : Nat) ((nxt n0L i) : Nat) ((nxt n0L (nxt n0L i)) : Nat) ((nxt n0L (nxt n0L (nxt n0L i))) : Nat)
        rw [he] at hr
        rw [hs]
        exact body_calls hf (i := i) (i' := bdn n0L 2 (nxt n0L i)) (mpB hr ⟨rfl, rfl, drawF_ok i0B q2 d2 rfl rfl, trivial, drawF_ok i0B q1 d1 rfl rfl, trivial, drawF_ok i0B hi hn rfl rfl, trivial, trivial⟩) b e w w0 hΦ ho hb hs0 hbw h1 h2 h3 hw
      · skip
        have hs : (⟨(bdl zsL n0L 2 (nxt n0L i)).toArray⟩ : ByteArray) = ⟨#[97, 99]⟩ := by simp only [bdl, d1, d2, Int.toNat_natCast]; rfl
        have hr := b_2_0_2 (i : Nat) ((nxt n0L i) : Nat) ((nxt n0L (nxt n0L i)) : Nat) ((nxt n0L (nxt n0L (nxt n0L i))) : Nat)
        rw [he] at hr
        rw [hs]
        exact body_calls hf (i := i) (i' := bdn n0L 2 (nxt n0L i)) (mpB hr ⟨rfl, rfl, drawF_ok i0B q2 d2 rfl rfl, trivial, drawF_ok i0B q1 d1 rfl rfl, trivial, drawF_ok i0B hi hn rfl rfl, trivial, trivial⟩) b e w w0 hΦ ho hb hs0 hbw h1 h2 h3 hw
    · skip
      rcases cv b2 with rfl | rfl | rfl
      · skip
        have hs : (⟨(bdl zsL n0L 2 (nxt n0L i)).toArray⟩ : ByteArray) = ⟨#[98, 97]⟩ := by simp only [bdl, d1, d2, Int.toNat_natCast]; rfl
        have hr := b_2_1_0 (i : Nat) ((nxt n0L i) : Nat) ((nxt n0L (nxt n0L i)) : Nat) ((nxt n0L (nxt n0L (nxt n0L i))) : Nat)
        rw [he] at hr
        rw [hs]
        exact body_calls hf (i := i) (i' := bdn n0L 2 (nxt n0L i)) (mpB hr ⟨rfl, rfl, drawF_ok i0B q2 d2 rfl rfl, trivial, drawF_ok i0B q1 d1 rfl rfl, trivial, drawF_ok i0B hi hn rfl rfl, trivial, trivial⟩) b e w w0 hΦ ho hb hs0 hbw h1 h2 h3 hw
      · skip
        have hs : (⟨(bdl zsL n0L 2 (nxt n0L i)).toArray⟩ : ByteArray) = ⟨#[98, 98]⟩ := by simp only [bdl, d1, d2, Int.toNat_natCast]; rfl
        have hr := b_2_1_1 (i : Nat) ((nxt n0L i) : Nat) ((nxt n0L (nxt n0L i)) : Nat) ((nxt n0L (nxt n0L (nxt n0L i))) : Nat)
        rw [he] at hr
        rw [hs]
        exact body_calls hf (i := i) (i' := bdn n0L 2 (nxt n0L i)) (mpB hr ⟨rfl, rfl, drawF_ok i0B q2 d2 rfl rfl, trivial, drawF_ok i0B q1 d1 rfl rfl, trivial, drawF_ok i0B hi hn rfl rfl, trivial, trivial⟩) b e w w0 hΦ ho hb hs0 hbw h1 h2 h3 hw
      · skip
        have hs : (⟨(bdl zsL n0L 2 (nxt n0L i)).toArray⟩ : ByteArray) = ⟨#[98, 99]⟩ := by simp only [bdl, d1, d2, Int.toNat_natCast]; rfl
        have hr := b_2_1_2 (i : Nat) ((nxt n0L i) : Nat) ((nxt n0L (nxt n0L i)) : Nat) ((nxt n0L (nxt n0L (nxt n0L i))) : Nat)
        rw [he] at hr
        rw [hs]
        exact body_calls hf (i := i) (i' := bdn n0L 2 (nxt n0L i)) (mpB hr ⟨rfl, rfl, drawF_ok i0B q2 d2 rfl rfl, trivial, drawF_ok i0B q1 d1 rfl rfl, trivial, drawF_ok i0B hi hn rfl rfl, trivial, trivial⟩) b e w w0 hΦ ho hb hs0 hbw h1 h2 h3 hw
    · skip
      rcases cv b2 with rfl | rfl | rfl
      · skip
        have hs : (⟨(bdl zsL n0L 2 (nxt n0L i)).toArray⟩ : ByteArray) = ⟨#[99, 97]⟩ := by simp only [bdl, d1, d2, Int.toNat_natCast]; rfl
        have hr := b_2_2_0 (i : Nat) ((nxt n0L i) : Nat) ((nxt n0L (nxt n0L i)) : Nat) ((nxt n0L (nxt n0L (nxt n0L i))) : Nat)
        rw [he] at hr
        rw [hs]
        exact body_calls hf (i := i) (i' := bdn n0L 2 (nxt n0L i)) (mpB hr ⟨rfl, rfl, drawF_ok i0B q2 d2 rfl rfl, trivial, drawF_ok i0B q1 d1 rfl rfl, trivial, drawF_ok i0B hi hn rfl rfl, trivial, trivial⟩) b e w w0 hΦ ho hb hs0 hbw h1 h2 h3 hw
      · skip
        have hs : (⟨(bdl zsL n0L 2 (nxt n0L i)).toArray⟩ : ByteArray) = ⟨#[99, 98]⟩ := by simp only [bdl, d1, d2, Int.toNat_natCast]; rfl
        have hr := b_2_2_1 (i : Nat) ((nxt n0L i) : Nat) ((nxt n0L (nxt n0L i)) : Nat) ((nxt n0L (nxt n0L (nxt n0L i))) : Nat)
        rw [he] at hr
        rw [hs]
        exact body_calls hf (i := i) (i' := bdn n0L 2 (nxt n0L i)) (mpB hr ⟨rfl, rfl, drawF_ok i0B q2 d2 rfl rfl, trivial, drawF_ok i0B q1 d1 rfl rfl, trivial, drawF_ok i0B hi hn rfl rfl, trivial, trivial⟩) b e w w0 hΦ ho hb hs0 hbw h1 h2 h3 hw
      · skip
        have hs : (⟨(bdl zsL n0L 2 (nxt n0L i)).toArray⟩ : ByteArray) = ⟨#[99, 99]⟩ := by simp only [bdl, d1, d2, Int.toNat_natCast]; rfl
        have hr := b_2_2_2 (i : Nat) ((nxt n0L i) : Nat) ((nxt n0L (nxt n0L i)) : Nat) ((nxt n0L (nxt n0L (nxt n0L i))) : Nat)
        rw [he] at hr
        rw [hs]
        exact body_calls hf (i := i) (i' := bdn n0L 2 (nxt n0L i)) (mpB hr ⟨rfl, rfl, drawF_ok i0B q2 d2 rfl rfl, trivial, drawF_ok i0B q1 d1 rfl rfl, trivial, drawF_ok i0B hi hn rfl rfl, trivial, trivial⟩) b e w w0 hΦ ho hb hs0 hbw h1 h2 h3 hw
  · skip
    rcases cv b1 with rfl | rfl | rfl
    · skip
      rcases cv b2 with rfl | rfl | rfl
      · skip
        rcases cv b3 with rfl | rfl | rfl
        · skip
          have hs : (⟨(bdl zsL n0L 3 (nxt n0L i)).toArray⟩ : ByteArray) = ⟨#[97, 97, 97]⟩ := by simp only [bdl, d1, d2, d3, Int.toNat_natCast]; rfl
          have hr := b_3_0_0_0 (i : Nat) ((nxt n0L i) : Nat) ((nxt n0L (nxt n0L i)) : Nat) ((nxt n0L (nxt n0L (nxt n0L i))) : Nat) ((nxt n0L (nxt n0L (nxt n0L (nxt n0L i)))) : Nat)
          rw [he] at hr
          rw [hs]
          exact body_calls hf (i := i) (i' := bdn n0L 3 (nxt n0L i)) (mpB hr ⟨rfl, rfl, drawF_ok i0B q3 d3 rfl rfl, trivial, drawF_ok i0B q2 d2 rfl rfl, trivial, drawF_ok i0B q1 d1 rfl rfl, trivial, drawF_ok i0B hi hn rfl rfl, trivial, trivial⟩) b e w w0 hΦ ho hb hs0 hbw h1 h2 h3 hw
        · skip
          have hs : (⟨(bdl zsL n0L 3 (nxt n0L i)).toArray⟩ : ByteArray) = ⟨#[97, 97, 98]⟩ := by simp only [bdl, d1, d2, d3, Int.toNat_natCast]; rfl
          have hr := b_3_0_0_1 (i : Nat) ((nxt n0L i) : Nat) ((nxt n0L (nxt n0L i)) : Nat) ((nxt n0L (nxt n0L (nxt n0L i))) : Nat) ((nxt n0L (nxt n0L (nxt n0L (nxt n0L i)))) : Nat)
          rw [he] at hr
          rw [hs]
          exact body_calls hf (i := i) (i' := bdn n0L 3 (nxt n0L i)) (mpB hr ⟨rfl, rfl, drawF_ok i0B q3 d3 rfl rfl, trivial, drawF_ok i0B q2 d2 rfl rfl, trivial, drawF_ok i0B q1 d1 rfl rfl, trivial, drawF_ok i0B hi hn rfl rfl, trivial, trivial⟩) b e w w0 hΦ ho hb hs0 hbw h1 h2 h3 hw
        · skip
          have hs : (⟨(bdl zsL n0L 3 (nxt n0L i)).toArray⟩ : ByteArray) = ⟨#[97, 97, 99]⟩ := by simp only [bdl, d1, d2, d3, Int.toNat_natCast]; rfl
          have hr := b_3_0_0_2 (i : Nat) ((nxt n0L i) : Nat) ((nxt n0L (nxt n0L i)) : Nat) ((nxt n0L (nxt n0L (nxt n0L i))) : Nat) ((nxt n0L (nxt n0L (nxt n0L (nxt n0L i)))) : Nat)
          rw [he] at hr
          rw [hs]
          exact body_calls hf (i := i) (i' := bdn n0L 3 (nxt n0L i)) (mpB hr ⟨rfl, rfl, drawF_ok i0B q3 d3 rfl rfl, trivial, drawF_ok i0B q2 d2 rfl rfl, trivial, drawF_ok i0B q1 d1 rfl rfl, trivial, drawF_ok i0B hi hn rfl rfl, trivial, trivial⟩) b e w w0 hΦ ho hb hs0 hbw h1 h2 h3 hw
      · skip
        rcases cv b3 with rfl | rfl | rfl
        · skip
          have hs : (⟨(bdl zsL n0L 3 (nxt n0L i)).toArray⟩ : ByteArray) = ⟨#[97, 98, 97]⟩ := by simp only [bdl, d1, d2, d3, Int.toNat_natCast]; rfl
          have hr := b_3_0_1_0 (i : Nat) ((nxt n0L i) : Nat) ((nxt n0L (nxt n0L i)) : Nat) ((nxt n0L (nxt n0L (nxt n0L i))) : Nat) ((nxt n0L (nxt n0L (nxt n0L (nxt n0L i)))) : Nat)
          rw [he] at hr
          rw [hs]
          exact body_calls hf (i := i) (i' := bdn n0L 3 (nxt n0L i)) (mpB hr ⟨rfl, rfl, drawF_ok i0B q3 d3 rfl rfl, trivial, drawF_ok i0B q2 d2 rfl rfl, trivial, drawF_ok i0B q1 d1 rfl rfl, trivial, drawF_ok i0B hi hn rfl rfl, trivial, trivial⟩) b e w w0 hΦ ho hb hs0 hbw h1 h2 h3 hw
        · skip
          have hs : (⟨(bdl zsL n0L 3 (nxt n0L i)).toArray⟩ : ByteArray) = ⟨#[97, 98, 98]⟩ := by simp only [bdl, d1, d2, d3, Int.toNat_natCast]; rfl
          have hr := b_3_0_1_1 (i : Nat) ((nxt n0L i) : Nat) ((nxt n0L (nxt n0L i)) : Nat) ((nxt n0L (nxt n0L (nxt n0L i))) : Nat) ((nxt n0L (nxt n0L (nxt n0L (nxt n0L i)))) : Nat)
          rw [he] at hr
          rw [hs]
          exact body_calls hf (i := i) (i' := bdn n0L 3 (nxt n0L i)) (mpB hr ⟨rfl, rfl, drawF_ok i0B q3 d3 rfl rfl, trivial, drawF_ok i0B q2 d2 rfl rfl, trivial, drawF_ok i0B q1 d1 rfl rfl, trivial, drawF_ok i0B hi hn rfl rfl, trivial, trivial⟩) b e w w0 hΦ ho hb hs0 hbw h1 h2 h3 hw
        · skip
          have hs : (⟨(bdl zsL n0L 3 (nxt n0L i)).toArray⟩ : ByteArray) = ⟨#[97, 98, 99]⟩ := by simp only [bdl, d1, d2, d3, Int.toNat_natCast]; rfl
          have hr := b_3_0_1_2 (i : Nat) ((nxt n0L i) : Nat) ((nxt n0L (nxt n0L i)) : Nat) ((nxt n0L (nxt n0L (nxt n0L i))) : Nat) ((nxt n0L (nxt n0L (nxt n0L (nxt n0L i)))) : Nat)
          rw [he] at hr
          rw [hs]
          exact body_calls hf (i := i) (i' := bdn n0L 3 (nxt n0L i)) (mpB hr ⟨rfl, rfl, drawF_ok i0B q3 d3 rfl rfl, trivial, drawF_ok i0B q2 d2 rfl rfl, trivial, drawF_ok i0B q1 d1 rfl rfl, trivial, drawF_ok i0B hi hn rfl rfl, trivial, trivial⟩) b e w w0 hΦ ho hb hs0 hbw h1 h2 h3 hw
      · skip
        rcases cv b3 with rfl | rfl | rfl
        · skip
          have hs : (⟨(bdl zsL n0L 3 (nxt n0L i)).toArray⟩ : ByteArray) = ⟨#[97, 99, 97]⟩ := by simp only [bdl, d1, d2, d3, Int.toNat_natCast]; rfl
          have hr := b_3_0_2_0 (i : Nat) ((nxt n0L i) : Nat) ((nxt n0L (nxt n0L i)) : Nat) ((nxt n0L (nxt n0L (nxt n0L i))) : Nat) ((nxt n0L (nxt n0L (nxt n0L (nxt n0L i)))) : Nat)
          rw [he] at hr
          rw [hs]
          exact body_calls hf (i := i) (i' := bdn n0L 3 (nxt n0L i)) (mpB hr ⟨rfl, rfl, drawF_ok i0B q3 d3 rfl rfl, trivial, drawF_ok i0B q2 d2 rfl rfl, trivial, drawF_ok i0B q1 d1 rfl rfl, trivial, drawF_ok i0B hi hn rfl rfl, trivial, trivial⟩) b e w w0 hΦ ho hb hs0 hbw h1 h2 h3 hw
        · skip
          have hs : (⟨(bdl zsL n0L 3 (nxt n0L i)).toArray⟩ : ByteArray) = ⟨#[97, 99, 98]⟩ := by simp only [bdl, d1, d2, d3, Int.toNat_natCast]; rfl
          have hr := b_3_0_2_1 (i : Nat) ((nxt n0L i) : Nat) ((nxt n0L (nxt n0L i)) : Nat) ((nxt n0L (nxt n0L (nxt n0L i))) : Nat) ((nxt n0L (nxt n0L (nxt n0L (nxt n0L i)))) : Nat)
          rw [he] at hr
          rw [hs]
          exact body_calls hf (i := i) (i' := bdn n0L 3 (nxt n0L i)) (mpB hr ⟨rfl, rfl, drawF_ok i0B q3 d3 rfl rfl, trivial, drawF_ok i0B q2 d2 rfl rfl, trivial, drawF_ok i0B q1 d1 rfl rfl, trivial, drawF_ok i0B hi hn rfl rfl, trivial, trivial⟩) b e w w0 hΦ ho hb hs0 hbw h1 h2 h3 hw
        · skip
          have hs : (⟨(bdl zsL n0L 3 (nxt n0L i)).toArray⟩ : ByteArray) = ⟨#[97, 99, 99]⟩ := by simp only [bdl, d1, d2, d3, Int.toNat_natCast]; rfl
          have hr := b_3_0_2_2 (i : Nat) ((nxt n0L i) : Nat) ((nxt n0L (nxt n0L i)) : Nat) ((nxt n0L (nxt n0L (nxt n0L i))) : Nat) ((nxt n0L (nxt n0L (nxt n0L (nxt n0L i)))) : Nat)
          rw [he] at hr
          rw [hs]
          exact body_calls hf (i := i) (i' := bdn n0L 3 (nxt n0L i)) (mpB hr ⟨rfl, rfl, drawF_ok i0B q3 d3 rfl rfl, trivial, drawF_ok i0B q2 d2 rfl rfl, trivial, drawF_ok i0B q1 d1 rfl rfl, trivial, drawF_ok i0B hi hn rfl rfl, trivial, trivial⟩) b e w w0 hΦ ho hb hs0 hbw h1 h2 h3 hw
    · skip
      rcases cv b2 with rfl | rfl | rfl
      · skip
        rcases cv b3 with rfl | rfl | rfl
        · skip
          have hs : (⟨(bdl zsL n0L 3 (nxt n0L i)).toArray⟩ : ByteArray) = ⟨#[98, 97, 97]⟩ := by simp only [bdl, d1, d2, d3, Int.toNat_natCast]; rfl
          have hr := b_3_1_0_0 (i : Nat) ((nxt n0L i) : Nat) ((nxt n0L (nxt n0L i)) : Nat) ((nxt n0L (nxt n0L (nxt n0L i))) : Nat) ((nxt n0L (nxt n0L (nxt n0L (nxt n0L i)))) : Nat)
          rw [he] at hr
          rw [hs]
          exact body_calls hf (i := i) (i' := bdn n0L 3 (nxt n0L i)) (mpB hr ⟨rfl, rfl, drawF_ok i0B q3 d3 rfl rfl, trivial, drawF_ok i0B q2 d2 rfl rfl, trivial, drawF_ok i0B q1 d1 rfl rfl, trivial, drawF_ok i0B hi hn rfl rfl, trivial, trivial⟩) b e w w0 hΦ ho hb hs0 hbw h1 h2 h3 hw
        · skip
          have hs : (⟨(bdl zsL n0L 3 (nxt n0L i)).toArray⟩ : ByteArray) = ⟨#[98, 97, 98]⟩ := by simp only [bdl, d1, d2, d3, Int.toNat_natCast]; rfl
          have hr := b_3_1_0_1 (i : Nat) ((nxt n0L i) : Nat) ((nxt n0L (nxt n0L i)) : Nat) ((nxt n0L (nxt n0L (nxt n0L i))) : Nat) ((nxt n0L (nxt n0L (nxt n0L (nxt n0L i)))) : Nat)
          rw [he] at hr
          rw [hs]
          exact body_calls hf (i := i) (i' := bdn n0L 3 (nxt n0L i)) (mpB hr ⟨rfl, rfl, drawF_ok i0B q3 d3 rfl rfl, trivial, drawF_ok i0B q2 d2 rfl rfl, trivial, drawF_ok i0B q1 d1 rfl rfl, trivial, drawF_ok i0B hi hn rfl rfl, trivial, trivial⟩) b e w w0 hΦ ho hb hs0 hbw h1 h2 h3 hw
        · skip
          have hs : (⟨(bdl zsL n0L 3 (nxt n0L i)).toArray⟩ : ByteArray) = ⟨#[98, 97, 99]⟩ := by simp only [bdl, d1, d2, d3, Int.toNat_natCast]; rfl
          have hr := b_3_1_0_2 (i : Nat) ((nxt n0L i) : Nat) ((nxt n0L (nxt n0L i)) : Nat) ((nxt n0L (nxt n0L (nxt n0L i))) : Nat) ((nxt n0L (nxt n0L (nxt n0L (nxt n0L i)))) : Nat)
          rw [he] at hr
          rw [hs]
          exact body_calls hf (i := i) (i' := bdn n0L 3 (nxt n0L i)) (mpB hr ⟨rfl, rfl, drawF_ok i0B q3 d3 rfl rfl, trivial, drawF_ok i0B q2 d2 rfl rfl, trivial, drawF_ok i0B q1 d1 rfl rfl, trivial, drawF_ok i0B hi hn rfl rfl, trivial, trivial⟩) b e w w0 hΦ ho hb hs0 hbw h1 h2 h3 hw
      · skip
        rcases cv b3 with rfl | rfl | rfl
        · skip
          have hs : (⟨(bdl zsL n0L 3 (nxt n0L i)).toArray⟩ : ByteArray) = ⟨#[98, 98, 97]⟩ := by simp only [bdl, d1, d2, d3, Int.toNat_natCast]; rfl
          have hr := b_3_1_1_0 (i : Nat) ((nxt n0L i) : Nat) ((nxt n0L (nxt n0L i)) : Nat) ((nxt n0L (nxt n0L (nxt n0L i))) : Nat) ((nxt n0L (nxt n0L (nxt n0L (nxt n0L i)))) : Nat)
          rw [he] at hr
          rw [hs]
          exact body_calls hf (i := i) (i' := bdn n0L 3 (nxt n0L i)) (mpB hr ⟨rfl, rfl, drawF_ok i0B q3 d3 rfl rfl, trivial, drawF_ok i0B q2 d2 rfl rfl, trivial, drawF_ok i0B q1 d1 rfl rfl, trivial, drawF_ok i0B hi hn rfl rfl, trivial, trivial⟩) b e w w0 hΦ ho hb hs0 hbw h1 h2 h3 hw
        · skip
          have hs : (⟨(bdl zsL n0L 3 (nxt n0L i)).toArray⟩ : ByteArray) = ⟨#[98, 98, 98]⟩ := by simp only [bdl, d1, d2, d3, Int.toNat_natCast]; rfl
          have hr := b_3_1_1_1 (i : Nat) ((nxt n0L i) : Nat) ((nxt n0L (nxt n0L i)) : Nat) ((nxt n0L (nxt n0L (nxt n0L i))) : Nat) ((nxt n0L (nxt n0L (nxt n0L (nxt n0L i)))) : Nat)
          rw [he] at hr
          rw [hs]
          exact body_calls hf (i := i) (i' := bdn n0L 3 (nxt n0L i)) (mpB hr ⟨rfl, rfl, drawF_ok i0B q3 d3 rfl rfl, trivial, drawF_ok i0B q2 d2 rfl rfl, trivial, drawF_ok i0B q1 d1 rfl rfl, trivial, drawF_ok i0B hi hn rfl rfl, trivial, trivial⟩) b e w w0 hΦ ho hb hs0 hbw h1 h2 h3 hw
        · skip
          have hs : (⟨(bdl zsL n0L 3 (nxt n0L i)).toArray⟩ : ByteArray) = ⟨#[98, 98, 99]⟩ := by simp only [bdl, d1, d2, d3, Int.toNat_natCast]; rfl
          have hr := b_3_1_1_2 (i : Nat) ((nxt n0L i) : Nat) ((nxt n0L (nxt n0L i)) : Nat) ((nxt n0L (nxt n0L (nxt n0L i))) : Nat) ((nxt n0L (nxt n0L (nxt n0L (nxt n0L i)))) : Nat)
          rw [he] at hr
          rw [hs]
          exact body_calls hf (i := i) (i' := bdn n0L 3 (nxt n0L i)) (mpB hr ⟨rfl, rfl, drawF_ok i0B q3 d3 rfl rfl, trivial, drawF_ok i0B q2 d2 rfl rfl, trivial, drawF_ok i0B q1 d1 rfl rfl, trivial, drawF_ok i0B hi hn rfl rfl, trivial, trivial⟩) b e w w0 hΦ ho hb hs0 hbw h1 h2 h3 hw
      · skip
        rcases cv b3 with rfl | rfl | rfl
        · skip
          have hs : (⟨(bdl zsL n0L 3 (nxt n0L i)).toArray⟩ : ByteArray) = ⟨#[98, 99, 97]⟩ := by simp only [bdl, d1, d2, d3, Int.toNat_natCast]; rfl
          have hr := b_3_1_2_0 (i : Nat) ((nxt n0L i) : Nat) ((nxt n0L (nxt n0L i)) : Nat) ((nxt n0L (nxt n0L (nxt n0L i))) : Nat) ((nxt n0L (nxt n0L (nxt n0L (nxt n0L i)))) : Nat)
          rw [he] at hr
          rw [hs]
          exact body_calls hf (i := i) (i' := bdn n0L 3 (nxt n0L i)) (mpB hr ⟨rfl, rfl, drawF_ok i0B q3 d3 rfl rfl, trivial, drawF_ok i0B q2 d2 rfl rfl, trivial, drawF_ok i0B q1 d1 rfl rfl, trivial, drawF_ok i0B hi hn rfl rfl, trivial, trivial⟩) b e w w0 hΦ ho hb hs0 hbw h1 h2 h3 hw
        · skip
          have hs : (⟨(bdl zsL n0L 3 (nxt n0L i)).toArray⟩ : ByteArray) = ⟨#[98, 99, 98]⟩ := by simp only [bdl, d1, d2, d3, Int.toNat_natCast]; rfl
          have hr := b_3_1_2_1 (i : Nat) ((nxt n0L i) : Nat) ((nxt n0L (nxt n0L i)) : Nat) ((nxt n0L (nxt n0L (nxt n0L i))) : Nat) ((nxt n0L (nxt n0L (nxt n0L (nxt n0L i)))) : Nat)
          rw [he] at hr
          rw [hs]
          exact body_calls hf (i := i) (i' := bdn n0L 3 (nxt n0L i)) (mpB hr ⟨rfl, rfl, drawF_ok i0B q3 d3 rfl rfl, trivial, drawF_ok i0B q2 d2 rfl rfl, trivial, drawF_ok i0B q1 d1 rfl rfl, trivial, drawF_ok i0B hi hn rfl rfl, trivial, trivial⟩) b e w w0 hΦ ho hb hs0 hbw h1 h2 h3 hw
        · skip
          have hs : (⟨(bdl zsL n0L 3 (nxt n0L i)).toArray⟩ : ByteArray) = ⟨#[98, 99, 99]⟩ := by simp only [bdl, d1, d2, d3, Int.toNat_natCast]; rfl
          have hr := b_3_1_2_2 (i : Nat) ((nxt n0L i) : Nat) ((nxt n0L (nxt n0L i)) : Nat) ((nxt n0L (nxt n0L (nxt n0L i))) : Nat) ((nxt n0L (nxt n0L (nxt n0L (nxt n0L i)))) : Nat)
          rw [he] at hr
          rw [hs]
          exact body_calls hf (i := i) (i' := bdn n0L 3 (nxt n0L i)) (mpB hr ⟨rfl, rfl, drawF_ok i0B q3 d3 rfl rfl, trivial, drawF_ok i0B q2 d2 rfl rfl, trivial, drawF_ok i0B q1 d1 rfl rfl, trivial, drawF_ok i0B hi hn rfl rfl, trivial, trivial⟩) b e w w0 hΦ ho hb hs0 hbw h1 h2 h3 hw
    · skip
      rcases cv b2 with rfl | rfl | rfl
      · skip
        rcases cv b3 with rfl | rfl | rfl
        · skip
          have hs : (⟨(bdl zsL n0L 3 (nxt n0L i)).toArray⟩ : ByteArray) = ⟨#[99, 97, 97]⟩ := by simp only [bdl, d1, d2, d3, Int.toNat_natCast]; rfl
          have hr := b_3_2_0_0 (i : Nat) ((nxt n0L i) : Nat) ((nxt n0L (nxt n0L i)) : Nat) ((nxt n0L (nxt n0L (nxt n0L i))) : Nat) ((nxt n0L (nxt n0L (nxt n0L (nxt n0L i)))) : Nat)
          rw [he] at hr
          rw [hs]
          exact body_calls hf (i := i) (i' := bdn n0L 3 (nxt n0L i)) (mpB hr ⟨rfl, rfl, drawF_ok i0B q3 d3 rfl rfl, trivial, drawF_ok i0B q2 d2 rfl rfl, trivial, drawF_ok i0B q1 d1 rfl rfl, trivial, drawF_ok i0B hi hn rfl rfl, trivial, trivial⟩) b e w w0 hΦ ho hb hs0 hbw h1 h2 h3 hw
        · skip
          have hs : (⟨(bdl zsL n0L 3 (nxt n0L i)).toArray⟩ : ByteArray) = ⟨#[99, 97, 98]⟩ := by simp only [bdl, d1, d2, d3, Int.toNat_natCast]; rfl
          have hr := b_3_2_0_1 (i : Nat) ((nxt n0L i) : Nat) ((nxt n0L (nxt n0L i)) : Nat) ((nxt n0L (nxt n0L (nxt n0L i))) : Nat) ((nxt n0L (nxt n0L (nxt n0L (nxt n0L i)))) : Nat)
          rw [he] at hr
          rw [hs]
          exact body_calls hf (i := i) (i' := bdn n0L 3 (nxt n0L i)) (mpB hr ⟨rfl, rfl, drawF_ok i0B q3 d3 rfl rfl, trivial, drawF_ok i0B q2 d2 rfl rfl, trivial, drawF_ok i0B q1 d1 rfl rfl, trivial, drawF_ok i0B hi hn rfl rfl, trivial, trivial⟩) b e w w0 hΦ ho hb hs0 hbw h1 h2 h3 hw
        · skip
          have hs : (⟨(bdl zsL n0L 3 (nxt n0L i)).toArray⟩ : ByteArray) = ⟨#[99, 97, 99]⟩ := by simp only [bdl, d1, d2, d3, Int.toNat_natCast]; rfl
          have hr := b_3_2_0_2 (i : Nat) ((nxt n0L i) : Nat) ((nxt n0L (nxt n0L i)) : Nat) ((nxt n0L (nxt n0L (nxt n0L i))) : Nat) ((nxt n0L (nxt n0L (nxt n0L (nxt n0L i)))) : Nat)
          rw [he] at hr
          rw [hs]
          exact body_calls hf (i := i) (i' := bdn n0L 3 (nxt n0L i)) (mpB hr ⟨rfl, rfl, drawF_ok i0B q3 d3 rfl rfl, trivial, drawF_ok i0B q2 d2 rfl rfl, trivial, drawF_ok i0B q1 d1 rfl rfl, trivial, drawF_ok i0B hi hn rfl rfl, trivial, trivial⟩) b e w w0 hΦ ho hb hs0 hbw h1 h2 h3 hw
      · skip
        rcases cv b3 with rfl | rfl | rfl
        · skip
          have hs : (⟨(bdl zsL n0L 3 (nxt n0L i)).toArray⟩ : ByteArray) = ⟨#[99, 98, 97]⟩ := by simp only [bdl, d1, d2, d3, Int.toNat_natCast]; rfl
          have hr := b_3_2_1_0 (i : Nat) ((nxt n0L i) : Nat) ((nxt n0L (nxt n0L i)) : Nat) ((nxt n0L (nxt n0L (nxt n0L i))) : Nat) ((nxt n0L (nxt n0L (nxt n0L (nxt n0L i)))) : Nat)
          rw [he] at hr
          rw [hs]
          exact body_calls hf (i := i) (i' := bdn n0L 3 (nxt n0L i)) (mpB hr ⟨rfl, rfl, drawF_ok i0B q3 d3 rfl rfl, trivial, drawF_ok i0B q2 d2 rfl rfl, trivial, drawF_ok i0B q1 d1 rfl rfl, trivial, drawF_ok i0B hi hn rfl rfl, trivial, trivial⟩) b e w w0 hΦ ho hb hs0 hbw h1 h2 h3 hw
        · skip
          have hs : (⟨(bdl zsL n0L 3 (nxt n0L i)).toArray⟩ : ByteArray) = ⟨#[99, 98, 98]⟩ := by simp only [bdl, d1, d2, d3, Int.toNat_natCast]; rfl
          have hr := b_3_2_1_1 (i : Nat) ((nxt n0L i) : Nat) ((nxt n0L (nxt n0L i)) : Nat) ((nxt n0L (nxt n0L (nxt n0L i))) : Nat) ((nxt n0L (nxt n0L (nxt n0L (nxt n0L i)))) : Nat)
          rw [he] at hr
          rw [hs]
          exact body_calls hf (i := i) (i' := bdn n0L 3 (nxt n0L i)) (mpB hr ⟨rfl, rfl, drawF_ok i0B q3 d3 rfl rfl, trivial, drawF_ok i0B q2 d2 rfl rfl, trivial, drawF_ok i0B q1 d1 rfl rfl, trivial, drawF_ok i0B hi hn rfl rfl, trivial, trivial⟩) b e w w0 hΦ ho hb hs0 hbw h1 h2 h3 hw
        · skip
          have hs : (⟨(bdl zsL n0L 3 (nxt n0L i)).toArray⟩ : ByteArray) = ⟨#[99, 98, 99]⟩ := by simp only [bdl, d1, d2, d3, Int.toNat_natCast]; rfl
          have hr := b_3_2_1_2 (i : Nat) ((nxt n0L i) : Nat) ((nxt n0L (nxt n0L i)) : Nat) ((nxt n0L (nxt n0L (nxt n0L i))) : Nat) ((nxt n0L (nxt n0L (nxt n0L (nxt n0L i)))) : Nat)
          rw [he] at hr
          rw [hs]
          exact body_calls hf (i := i) (i' := bdn n0L 3 (nxt n0L i)) (mpB hr ⟨rfl, rfl, drawF_ok i0B q3 d3 rfl rfl, trivial, drawF_ok i0B q2 d2 rfl rfl, trivial, drawF_ok i0B q1 d1 rfl rfl, trivial, drawF_ok i0B hi hn rfl rfl, trivial, trivial⟩) b e w w0 hΦ ho hb hs0 hbw h1 h2 h3 hw
      · skip
        rcases cv b3 with rfl | rfl | rfl
        · skip
          have hs : (⟨(bdl zsL n0L 3 (nxt n0L i)).toArray⟩ : ByteArray) = ⟨#[99, 99, 97]⟩ := by simp only [bdl, d1, d2, d3, Int.toNat_natCast]; rfl
          have hr := b_3_2_2_0 (i : Nat) ((nxt n0L i) : Nat) ((nxt n0L (nxt n0L i)) : Nat) ((nxt n0L (nxt n0L (nxt n0L i))) : Nat) ((nxt n0L (nxt n0L (nxt n0L (nxt n0L i)))) : Nat)
          rw [he] at hr
          rw [hs]
          exact body_calls hf (i := i) (i' := bdn n0L 3 (nxt n0L i)) (mpB hr ⟨rfl, rfl, drawF_ok i0B q3 d3 rfl rfl, trivial, drawF_ok i0B q2 d2 rfl rfl, trivial, drawF_ok i0B q1 d1 rfl rfl, trivial, drawF_ok i0B hi hn rfl rfl, trivial, trivial⟩) b e w w0 hΦ ho hb hs0 hbw h1 h2 h3 hw
        · skip
          have hs : (⟨(bdl zsL n0L 3 (nxt n0L i)).toArray⟩ : ByteArray) = ⟨#[99, 99, 98]⟩ := by simp only [bdl, d1, d2, d3, Int.toNat_natCast]; rfl
          have hr := b_3_2_2_1 (i : Nat) ((nxt n0L i) : Nat) ((nxt n0L (nxt n0L i)) : Nat) ((nxt n0L (nxt n0L (nxt n0L i))) : Nat) ((nxt n0L (nxt n0L (nxt n0L (nxt n0L i)))) : Nat)
          rw [he] at hr
          rw [hs]
          exact body_calls hf (i := i) (i' := bdn n0L 3 (nxt n0L i)) (mpB hr ⟨rfl, rfl, drawF_ok i0B q3 d3 rfl rfl, trivial, drawF_ok i0B q2 d2 rfl rfl, trivial, drawF_ok i0B q1 d1 rfl rfl, trivial, drawF_ok i0B hi hn rfl rfl, trivial, trivial⟩) b e w w0 hΦ ho hb hs0 hbw h1 h2 h3 hw
        · skip
          have hs : (⟨(bdl zsL n0L 3 (nxt n0L i)).toArray⟩ : ByteArray) = ⟨#[99, 99, 99]⟩ := by simp only [bdl, d1, d2, d3, Int.toNat_natCast]; rfl
          have hr := b_3_2_2_2 (i : Nat) ((nxt n0L i) : Nat) ((nxt n0L (nxt n0L i)) : Nat) ((nxt n0L (nxt n0L (nxt n0L i))) : Nat) ((nxt n0L (nxt n0L (nxt n0L (nxt n0L i)))) : Nat)
          rw [he] at hr
          rw [hs]
          exact body_calls hf (i := i) (i' := bdn n0L 3 (nxt n0L i)) (mpB hr ⟨rfl, rfl, drawF_ok i0B q3 d3 rfl rfl, trivial, drawF_ok i0B q2 d2 rfl rfl, trivial, drawF_ok i0B q1 d1 rfl rfl, trivial, drawF_ok i0B hi hn rfl rfl, trivial, trivial⟩) b e w w0 hΦ ho hb hs0 hbw h1 h2 h3 hw
noncomputable section
def hkB [l : Lst] (f : Nat) : FC := cnd (Nat.beq f 25) (fcBody lst1 n0L zsL) (hkL f)
theorem hkB_ok [l : Lst] : CallsOk Tryz.prog hkB := fun g => by
  show FcOk Tryz.prog g (cnd (Nat.beq g 25) (fcBody lst1 n0L zsL) (hkL g))
  cases h1 : Nat.beq g 25 with
  | true => rw [beqT h1]; exact bodyL_ok
  | false => exact hkL_ok g
end
end Go.M
