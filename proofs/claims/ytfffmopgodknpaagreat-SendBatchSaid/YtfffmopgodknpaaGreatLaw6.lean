/-
  SendBatch gives back true for every list.
  The list lies in memory, and there are no more of its numbers than fit.
-/
import Derived.Test.YtfffmopgodknpaaGreatRb61
import Derived.Test.YtfffmopgodknpaaGreatRb62
import Derived.Test.YtfffmopgodknpaaGreatRb63
import Derived.Test.YtfffmopgodknpaaGreatRb64
import Derived.Test.YtfffmopgodknpaaGreatRb65
import Derived.Test.YtfffmopgodknpaaGreatRb66
set_option linter.unusedVariables false
set_option maxRecDepth 100000
namespace Go.M
open Go Go.Proofs
theorem fn6 (a : Option Addr) (len cap : Nat) (zs : List Int) (h : len ≤ cap) (w : World) (hL : HasL a len cap zs w) : Calls Tryz.prog 6 #[.slice a len cap] w fun e w' => e = .returned (.bool true) ∧ Go.RowKit.Below w.heap.size w w' := by
  letI l : Lst := ⟨a, len, cap, zs, h⟩
  have hv : denL Vz [⟨13, [], lst0⟩] #[Value.slice a len cap].toList := denL_cons.2 ⟨_, [], rfl, (den12 (x := ⟨13, [], lst0⟩) (.inr rfl)).2 ⟨rfl, rfl⟩, denL_nil.2 rfl⟩
  have hf := law_ok cl28_ok ok6
  generalize he : exF cl28 fun6 = e at hf
  have i0 : dvX ⟨0, [], oZ⟩ = some (.int .i64 ((0 : Nat) : Int)) := dvX_i 0
  have q0 : 0 ≤ n0L := Nat.zero_le _
  obtain ⟨m, d, b⟩ := drw_case zsL n0L 0 6 (by omega)
  let p0 : Nat := nxt n0L 0
  have h0 : p0 ≤ n0L := nxt_le q0
  let p1 : Nat := bodyN zsL n0L p0
  have h1 : p1 ≤ n0L := bodyN_le h0
  let s0 : ByteArray := bodyS zsL n0L p0
  have z0 : s0.size ≤ 3 := bodyS_size _ _ _
  let p2 : Nat := bodyN zsL n0L p1
  have h2 : p2 ≤ n0L := bodyN_le h1
  let s1 : ByteArray := bodyS zsL n0L p1
  have z1 : s1.size ≤ 3 := bodyS_size _ _ _
  let p3 : Nat := bodyN zsL n0L p2
  have h3 : p3 ≤ n0L := bodyN_le h2
  let s2 : ByteArray := bodyS zsL n0L p2
  have z2 : s2.size ≤ 3 := bodyS_size _ _ _
  let p4 : Nat := bodyN zsL n0L p3
  have h4 : p4 ≤ n0L := bodyN_le h3
  let s3 : ByteArray := bodyS zsL n0L p3
  have z3 : s3.size ≤ 3 := bodyS_size _ _ _
  let p5 : Nat := bodyN zsL n0L p4
  have h5 : p5 ≤ n0L := bodyN_le h4
  let s4 : ByteArray := bodyS zsL n0L p4
  have z4 : s4.size ≤ 3 := bodyS_size _ _ _
  let p6 : Nat := bodyN zsL n0L p5
  have h6 : p6 ≤ n0L := bodyN_le h5
  let s5 : ByteArray := bodyS zsL n0L p5
  have z5 : s5.size ≤ 3 := bodyS_size _ _ _
  have c : m = 0 ∨ m = 1 ∨ m = 2 ∨ m = 3 ∨ m = 4 ∨ m = 5 := by omega
  rcases c with rfl | rfl | rfl | rfl | rfl | rfl
  · have hr := r6_1 s0 (p0 : Nat) (p1 : Nat)
    rw [he] at hr
    exact top hf (Eq.mpr hr (fsS_ok (fun s hs => by
      simp only [List.mem_cons, List.not_mem_nil, or_false] at hs
      rcases hs with rfl <;> assumption) _ _ ⟨bodyF_ok dS h0, trivial, drawF_ok i0 q0 d rfl rfl, trivial, rfl, trivial⟩)) hv w hL
  · have hr := r6_2 s0 s1 (p0 : Nat) (p1 : Nat) (p2 : Nat)
    rw [he] at hr
    exact top hf (Eq.mpr hr (fsS_ok (fun s hs => by
      simp only [List.mem_cons, List.not_mem_nil, or_false] at hs
      rcases hs with rfl | rfl <;> assumption) _ _ ⟨bodyF_ok dS h1, trivial, bodyF_ok dS h0, trivial, drawF_ok i0 q0 d rfl rfl, trivial, rfl, trivial⟩)) hv w hL
  · have hr := r6_3 s0 s1 s2 (p0 : Nat) (p1 : Nat) (p2 : Nat) (p3 : Nat)
    rw [he] at hr
    exact top hf (Eq.mpr hr (fsS_ok (fun s hs => by
      simp only [List.mem_cons, List.not_mem_nil, or_false] at hs
      rcases hs with rfl | rfl | rfl <;> assumption) _ _ ⟨bodyF_ok dS h2, trivial, bodyF_ok dS h1, trivial, bodyF_ok dS h0, trivial, drawF_ok i0 q0 d rfl rfl, trivial, rfl, trivial⟩)) hv w hL
  · have hr := r6_4 s0 s1 s2 s3 (p0 : Nat) (p1 : Nat) (p2 : Nat) (p3 : Nat) (p4 : Nat)
    rw [he] at hr
    exact top hf (Eq.mpr hr (fsS_ok (fun s hs => by
      simp only [List.mem_cons, List.not_mem_nil, or_false] at hs
      rcases hs with rfl | rfl | rfl | rfl <;> assumption) _ _ ⟨bodyF_ok dS h3, trivial, bodyF_ok dS h2, trivial, bodyF_ok dS h1, trivial, bodyF_ok dS h0, trivial, drawF_ok i0 q0 d rfl rfl, trivial, rfl, trivial⟩)) hv w hL
  · have hr := r6_5 s0 s1 s2 s3 s4 (p0 : Nat) (p1 : Nat) (p2 : Nat) (p3 : Nat) (p4 : Nat) (p5 : Nat)
    rw [he] at hr
    exact top hf (Eq.mpr hr (fsS_ok (fun s hs => by
      simp only [List.mem_cons, List.not_mem_nil, or_false] at hs
      rcases hs with rfl | rfl | rfl | rfl | rfl <;> assumption) _ _ ⟨bodyF_ok dS h4, trivial, bodyF_ok dS h3, trivial, bodyF_ok dS h2, trivial, bodyF_ok dS h1, trivial, bodyF_ok dS h0, trivial, drawF_ok i0 q0 d rfl rfl, trivial, rfl, trivial⟩)) hv w hL
  · have hr := r6_6 s0 s1 s2 s3 s4 s5 (p0 : Nat) (p1 : Nat) (p2 : Nat) (p3 : Nat) (p4 : Nat) (p5 : Nat) (p6 : Nat)
    rw [he] at hr
    exact top hf (Eq.mpr hr (fsS_ok (fun s hs => by
      simp only [List.mem_cons, List.not_mem_nil, or_false] at hs
      rcases hs with rfl | rfl | rfl | rfl | rfl | rfl <;> assumption) _ _ ⟨bodyF_ok dS h5, trivial, bodyF_ok dS h4, trivial, bodyF_ok dS h3, trivial, bodyF_ok dS h2, trivial, bodyF_ok dS h1, trivial, bodyF_ok dS h0, trivial, drawF_ok i0 q0 d rfl rfl, trivial, rfl, trivial⟩)) hv w hL
end Go.M
