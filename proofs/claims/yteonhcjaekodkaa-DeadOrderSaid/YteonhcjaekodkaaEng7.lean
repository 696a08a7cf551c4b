/-
  The engine, part 7: what an operation looks at.
  No condition: lemmas.
-/
import Derived.Test.YteonhcjaekodkaaEng4
set_option linter.all false
namespace Go.Eng
open Go

theorem evL_congr {t t' : List (Nat × AV)} : ∀ (l : List Operand), (∀ x ∈ l, ev t' x = ev t x) → evL t' l = evL t l
  | [], _ => rfl
  | x :: l, h => by
    simp only [evL, h x (List.mem_cons_self ..), evL_congr l fun y hy => h y (List.mem_cons_of_mem _ hy)]

theorem partsA_congr {t t' : List (Nat × AV)} : ∀ (l : List (Nat × Nat × Operand)), (∀ x ∈ l.map (fun p => p.2.2), ev t' x = ev t x) → partsA t' l = partsA t l
  | [], _ => rfl
  | (a, b, x) :: l, h => by
    simp only [partsA, h x (by simp), partsA_congr l fun y hy => h y (by simp only [List.map_cons, List.mem_cons]; exact .inr hy)]

theorem partsR_congr {t t' : List (Nat × AV)} {sz : Nat} : ∀ (l : List (Nat × Operand)), (∀ x ∈ l.map (fun p => p.2), ev t' x = ev t x) → partsR t' sz l = partsR t sz l
  | [], _ => rfl
  | (a, x) :: l, h => by
    simp only [partsR, h x (by simp), partsR_congr l fun y hy => h y (by simp only [List.map_cons, List.mem_cons]; exact .inr hy)]

theorem bound_congr {t t' : List (Nat × AV)} {d : Nat} (x : Option Operand) (h : ∀ y ∈ x.toList, ev t' y = ev t y) : bound t' d x = bound t d x := by
  cases x with
  | none => rfl
  | some y => simp only [bound, h y (by simp)]

theorem contentsN_congr {h h' : List (Nat × Ob)} {sz : Nat} (x : Option AV) (hb : ∀ b ∈ nmsO x, get h' b = get h b) : contentsN h' sz x = contentsN h sz x := by
  unfold contentsN
  split <;> try rfl
  rename_i b sz' off len
  rw [hb b (by simp [nmsO, AV.nms])]

theorem eff_dep {nm : Nat} {t t' : List (Nat × AV)} {h h' : List (Nat × Ob)} (op : SOp) (hx : ∀ x ∈ opnds op, ev t' x = ev t x) (hb : ∀ b ∈ rdOf t op, get h' b = get h b) :
    eff nm t' h' op = eff nm t h op := by
  cases op <;> simp only [opnds, List.mem_cons, List.mem_append, List.not_mem_nil, or_false, forall_eq_or_imp, forall_eq] at hx <;>
    simp only [rdOf, List.not_mem_nil, List.mem_append] at hb <;> simp only [eff]
  case mov x => simp only [hx]
  case pick a b c => simp only [hx]
  case box x => simp only [hx]
  case build zs ps => rw [partsA_congr ps hx]
  case bslice e sz zs len ps => rw [partsR_congr ps hx]
  case load ag sz x =>
    rw [hx]
    cases hy : ev t x with
    | none => rfl
    | some y => cases y <;> first
      | rfl
      | (simp only [hy, nmsO, AV.nms, List.mem_cons, List.not_mem_nil, or_false, forall_eq] at hb; first | (simp only [hb]; done) | (split <;> simp_all; done) | (cases z0 <;> first | rfl | (rename_i y; cases y <;> first | rfl | (rename_i y; cases y <;> first | rfl | simp only [hb]))))
  case store sz x y =>
    rw [hx.1, hx.2]
    generalize ev t y = z0
    cases hy : ev t x with
    | none => cases z0 <;> rfl
    | some y => cases y <;> first
      | rfl
      | (simp only [hy, nmsO, AV.nms, List.mem_cons, List.not_mem_nil, or_false, forall_eq] at hb; first | (simp only [hb]; done) | (split <;> simp_all; done) | (cases z0 <;> first | rfl | (rename_i y; cases y <;> first | rfl | (rename_i y; cases y <;> first | rfl | simp only [hb]))))
  case nilc x =>
    rw [hx]
    cases hy : ev t x with
    | none => rfl
    | some y => cases y <;> first
      | rfl
      | (simp only [hy, nmsO, AV.nms, List.mem_cons, List.not_mem_nil, or_false, forall_eq] at hb; first | (simp only [hb]; done) | (split <;> simp_all; done) | (cases z0 <;> first | rfl | (rename_i y; cases y <;> first | rfl | (rename_i y; cases y <;> first | rfl | simp only [hb]))))
  case bin op x y => simp only [hx]
  case eqs neg ks x y => simp only [hx]
  case eqb neg x y => simp only [hx]
  case un op x => simp only [hx]
  case conv k x => simp only [hx]
  case b2s x => rw [hx, contentsN_congr _ hb]
  case mkfn f cs => rw [evL_congr cs hx]
  case look z m k =>
    rw [hx.1, hx.2]
    generalize ev t k = z0
    cases hy : ev t m with
    | none => cases z0 <;> rfl
    | some y => cases y <;> first
      | rfl
      | (simp only [hy, nmsO, AV.nms, List.mem_cons, List.not_mem_nil, or_false, forall_eq] at hb; first | (simp only [hb]; done) | (split <;> simp_all; done) | (cases z0 <;> first | rfl | (rename_i y; cases y <;> first | rfl | (rename_i y; cases y <;> first | rfl | simp only [hb]))))
  case mput m k x =>
    rw [hx.1, hx.2.1, hx.2.2]
    generalize ev t k = z0
    generalize ev t x = z1
    cases hy : ev t m with
    | none => cases z0 <;> cases z1 <;> rfl
    | some y => cases y <;> first
      | rfl
      | (simp only [hy, nmsO, AV.nms, List.mem_cons, List.not_mem_nil, or_false, forall_eq] at hb; first | (simp only [hb]; done) | (split <;> simp_all; done) | (cases z0 <;> first | rfl | (rename_i y; cases y <;> first | rfl | (rename_i y; cases y <;> first | rfl | simp only [hb]))))
  case mkslice e sz bytes zs l c => simp only [hx]
  case slice sz x lo hi mx =>
    have e1 : bound t' 0 lo = bound t 0 lo := bound_congr lo fun y hy => hx.2 y (.inl hy)
    have e2 : ∀ d, bound t' d hi = bound t d hi := fun d => bound_congr hi fun y hy => hx.2 y (.inr (.inl hy))
    simp only [e1, e2]
    rw [hx.1]
    generalize bound t 0 lo = z0
    generalize mx = z1
    cases hy : ev t x with
    | none => cases z0 <;> cases z1 <;> rfl
    | some y => cases y <;> first
      | rfl
      | (simp only [hy, nmsO, AV.nms, List.mem_cons, List.not_mem_nil, or_false, forall_eq] at hb; first | (simp only [hb]; done) | (split <;> simp_all; done) | (cases z0 <;> first | rfl | (rename_i y; cases y <;> first | rfl | (rename_i y; cases y <;> first | rfl | simp only [hb]))))
  case sslice x lo hi =>
    have e1 : bound t' 0 lo = bound t 0 lo := bound_congr lo fun y hy => hx.2 y (.inl hy)
    have e2 : ∀ d, bound t' d hi = bound t d hi := fun d => bound_congr hi fun y hy => hx.2 y (.inr hy)
    simp only [e1, e2, hx.1]
  case faddr off x =>
    rw [hx]
    cases hy : ev t x with
    | none => rfl
    | some y => cases y <;> first
      | rfl
      | (simp only [hy, nmsO, AV.nms, List.mem_cons, List.not_mem_nil, or_false, forall_eq] at hb; first | (simp only [hb]; done) | (split <;> simp_all; done) | (cases z0 <;> first | rfl | (rename_i y; cases y <;> first | rfl | (rename_i y; cases y <;> first | rfl | simp only [hb]))))
  case fld ag off sz x => simp only [hx]
  case iaddr sz x i =>
    rw [hx.1, hx.2]
    generalize ev t i = z0
    cases hy : ev t x with
    | none => cases z0 <;> rfl
    | some y => cases y <;> first
      | rfl
      | (simp only [hy, nmsO, AV.nms, List.mem_cons, List.not_mem_nil, or_false, forall_eq] at hb; first | (simp only [hb]; done) | (split <;> simp_all; done) | (cases z0 <;> first | rfl | (rename_i y; cases y <;> first | rfl | (rename_i y; cases y <;> first | rfl | simp only [hb]))))
  case idx ag len sz x i => simp only [hx]
  case idxs x i => simp only [hx]
  case len x =>
    rw [hx]
    cases hy : ev t x with
    | none => rfl
    | some y => cases y <;> first
      | rfl
      | (simp only [hy, nmsO, AV.nms, List.mem_cons, List.not_mem_nil, or_false, forall_eq] at hb; first | (simp only [hb]; done) | (split <;> simp_all; done) | (cases z0 <;> first | rfl | (rename_i y; cases y <;> first | rfl | (rename_i y; cases y <;> first | rfl | simp only [hb]))))
  case slen x => simp only [hx]
  case cap x => simp only [hx]
  case app e sz bytes zs s x =>
    rw [hx.1, hx.2, contentsN_congr (ev t x) fun b hb' => hb b (.inr hb')]
    have hb := fun b h => hb b (.inl h)
    cases hy : ev t s with
    | none => rfl
    | some y => cases y <;> first
      | rfl
      | (simp only [hy, nmsO, AV.nms, List.mem_cons, List.not_mem_nil, or_false, forall_eq] at hb; first | (simp only [hb]; done) | (split <;> simp_all; done) | (cases z0 <;> first | rfl | (rename_i y; cases y <;> first | rfl | (rename_i y; cases y <;> first | rfl | simp only [hb]))))
  case appz e sz bytes zs s x => simp only [hx]
  case clr sz zs x =>
    rw [hx]
    cases hy : ev t x with
    | none => rfl
    | some y => cases y <;> first
      | rfl
      | (simp only [hy, nmsO, AV.nms, List.mem_cons, List.not_mem_nil, or_false, forall_eq] at hb; first | (simp only [hb]; done) | (split <;> simp_all; done) | (cases z0 <;> first | rfl | (rename_i y; cases y <;> first | rfl | (rename_i y; cases y <;> first | rfl | simp only [hb]))))
  case ext i x => simp only [hx]
  case minmax mx xs => rw [evL_congr xs hx]
end Go.Eng
