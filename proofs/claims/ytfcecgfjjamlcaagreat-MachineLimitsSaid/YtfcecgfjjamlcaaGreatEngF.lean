/-
  The engine, joined part F: an abstract interpreter over the kit's calls, and its soundness.
  No condition beyond those that each theorem states.
-/
import Derived.Test.YtfcecgfjjamlcaaGreatEngE
set_option linter.all false
namespace Go.Eng
open Go
def catB (a b : ByteArray) : ByteArray := ⟨(a.data.toList ++ b.data.toList).toArray⟩
theorem catB_eq (a b : ByteArray) : a ++ b = catB a b := by
  obtain ⟨⟨a⟩⟩ := a
  obtain ⟨⟨b⟩⟩ := b
  apply ByteArray.ext
  simp [catB]
def cutB (s : ByteArray) (l r : Nat) : ByteArray := ⟨((s.data.toList.take r).drop l).toArray⟩
theorem cutB_eq (s : ByteArray) (l r : Nat) : s.extract l r = cutB s l r := by
  obtain ⟨⟨s⟩⟩ := s
  apply ByteArray.ext
  simp [cutB, List.extract_eq_take_drop, List.drop_take]
def sbinB : BinOp → Value → Value → Option Value
  | .eql, .string a, .string b => some (.bool (a.data.toList == b.data.toList))
  | .neq, .string a, .string b => some (.bool (!(a.data.toList == b.data.toList)))
  | op, x, y => sbin op x y
theorem sbinB_eq (op : BinOp) (x y : Value) : sbin op x y = sbinB op x y := by
  unfold sbinB
  split <;> simp [sbin, ByteArray.toList_eq]
def sbinPB : BinOp → Value → Value → Option (Bool × Value)
  | .quo, .int k a, .int k' b => if k = k' then some (decide (b ≠ 0), .int k (k.wrap (a.tdiv b))) else none
  | .rem, .int k a, .int k' b => if k = k' then some (decide (b ≠ 0), .int k (a.tmod b)) else none
  | .shl, .int k a, .int _ b => some (decide (0 ≤ b), .int k (k.wrap (a * 2 ^ (min b.toNat k.bits))))
  | .shr, .int k a, .int _ b => some (decide (0 ≤ b), .int k (a.fdiv (2 ^ (min b.toNat k.bits))))
  | .add, .string a, .string b => some (decide (a.size + b.size ≤ maxLen), .string (catB a b))
  | _, _, _ => none
theorem sbinP_eq (op : BinOp) (x y : Value) : sbinP op x y = (sbinPB op x y).map fun p => (p.1 = true, p.2) := by
  unfold sbinP
  split
  · simp only [sbinPB]; split <;> simp
  · simp only [sbinPB]; split <;> simp
  · simp [sbinPB]
  · simp [sbinPB]
  · simp [sbinPB, catB_eq]
  · rename_i h1 h2 h3 h4 h5
    unfold sbinPB
    split
    · exact (h1 _ _ _ _ rfl rfl rfl).elim
    · exact (h2 _ _ _ _ rfl rfl rfl).elim
    · exact (h3 _ _ _ _ rfl rfl rfl).elim
    · exact (h4 _ _ _ _ rfl rfl rfl).elim
    · exact (h5 _ _ rfl rfl rfl).elim
    · rfl
def eqCellsB : List Nat → List AV → List AV → Option Bool
  | [], [], [] => some true
  | 0 :: ks, .v (.int k a) :: l, .v (.int k' b) :: l' => if k = k' then (match eqCellsB ks l l' with
    | some r => some ((a == b) && r)
    | none => none) else none
  | 1 :: ks, .v (.string a) :: l, .v (.string b) :: l' => match eqCellsB ks l l' with
    | some r => some ((a.data.toList == b.data.toList) && r)
    | none => none
  | 2 :: ks, .v (.bool a) :: l, .v (.bool b) :: l' => match eqCellsB ks l l' with
    | some r => some ((a == b) && r)
    | none => none
  | _, _, _ => none
theorem eqCells_eq : ∀ (ks : List Nat) (l l' : List AV), eqCells ks l l' = eqCellsB ks l l' := by
  intro ks l l'
  induction ks, l, l' using eqCells.induct <;> simp_all [eqCells, eqCellsB, ByteArray.toList_eq]
def contentsB (h : List (Nat × Ob)) (sz : Nat) : Option AV → Option (Bool × List (List AV))
  | some (.v (.slice none 0 0)) => some (true, [])
  | some (.sl sz' xs) => if sz = sz' then some (true, xs) else none
  | some (.own b sz' off len) => match get h b with
    | some (.row _ sz'' xs) => if sz = sz' ∧ sz = sz'' then some (decide (off + len ≤ xs.length), (xs.drop off).take len) else none
    | _ => none
  | _ => none
theorem contents_eq (h : List (Nat × Ob)) (sz : Nat) (x : Option AV) : contentsN h sz x = (contentsB h sz x).map fun p => (p.1 = true, p.2) := by
  unfold contentsN
  split
  · simp [contentsB]
  · simp only [contentsB]; split <;> simp_all
  · rename_i b sz' off len
    simp only [contentsB]
    cases hg : get h b with
    | none => rfl
    | some o =>
      cases o with
      | row e sz'' xs => simp only; split <;> simp
      | _ => rfl
  · rename_i h1 h2 h3
    unfold contentsB
    split
    · exact (h1 rfl).elim
    · exact (h2 _ _ rfl).elim
    · exact (h3 _ _ _ _ rfl).elim
    · rfl
def eff2 (nm : Nat) (t : List (Nat × AV)) (h : List (Nat × Ob)) : SOp → Option E
  | .bin op x y => match ev t x, ev t y with
    | some (.v a), some (.v b) => match sbinB op a b with
      | some c => E.ok (.v c)
      | none => match sbinPB op a b with
        | some (p, c) => some ⟨p = true, .v c, []⟩
        | none => none
    | _, _ => none
  | .eqs neg ks x y => match ev t x, ev t y with
    | some (.agg a), some (.agg b) => match eqCellsB ks a b with
      | some c => E.ok (.v (.bool (if neg then !c else c)))
      | none => none
    | _, _ => none
  | .sslice x lo hi => match ev t x, bound t 0 lo with
    | some (.v (.string s)), some l => match bound t s.size hi with
      | some r => some ⟨0 ≤ l ∧ l ≤ r ∧ r ≤ s.size, .v (.string (cutB s l.toNat r.toNat)), []⟩
      | none => none
    | _, _ => none
  | op => eff nm t h op
theorem eff2_eq (nm : Nat) (t : List (Nat × AV)) (h : List (Nat × Ob)) (op : SOp) : eff nm t h op = eff2 nm t h op := by
  cases op
  case bin op x y =>
    simp only [eff, eff2]
    rcases ev t x with _ | X
    · rfl
    rcases ev t y with _ | Y
    · cases X <;> rfl
    cases X <;> try rfl
    cases Y <;> try rfl
    rename_i a b
    simp only [sbinB_eq, sbinP_eq]
    cases sbinB op a b with
    | some c => rfl
    | none => cases sbinPB op a b <;> rfl
  case eqs neg ks x y => simp only [eff, eff2, eqCells_eq]; rfl
  case sslice x lo hi => simp only [eff, eff2, cutB_eq]; rfl
  all_goals rfl
def preB (t : List (Nat × AV)) (h : List (Nat × Ob)) : SOp → Bool
  | .load ag sz x => match ev t x with
    | some (.rp b _ k j) => match get h b with
      | some (.row _ sz'' xs) => if ag then decide (k < xs.length ∧ j + sz ≤ sz'') else decide (k < xs.length ∧ j < sz'')
      | _ => false
    | _ => true
  | .store sz x _ => match ev t x with
    | some (.rp b _ k j) => match get h b with
      | some (.row _ sz'' xs) => decide (k < xs.length ∧ j + sz ≤ sz'')
      | _ => false
    | _ => true
  | .bin op x y => match ev t x, ev t y with
    | some (.v a), some (.v b) => match sbin op a b with
      | some _ => true
      | none => match sbinPB op a b with
        | some (p, _) => p
        | none => false
    | _, _ => false
  | .b2s x => match contentsB h 1 (ev t x) with
    | some (p, _) => p
    | none => false
  | .mkslice _ _ bytes _ l c => match ev t l, ev t c with
    | some (.v (.int _ n)), some (.v (.int _ m)) => decide (0 ≤ n ∧ n = m ∧ n * bytes ≤ 140737488355328 ∧ n ≤ 9223372036854775807)
    | _, _ => false
  | .app _ sz bytes _ s x => match ev t s, contentsB h sz (ev t x) with
    | some (.v (.slice none 0 0)), some (p, news) => p && decide (news.length * bytes ≤ 140737488355328 ∧ news.length ≤ maxLen)
    | some (.fn 2000000 [.sl _ xs]), some (p, news) => if 0 < news.length then p && decide ((xs.length + news.length) * bytes ≤ 140737488355328 ∧ xs.length + news.length ≤ maxLen) else p
    | some (.own b _ off len), some (p, news) => match get h b with
      | some (.row _ _ xs) => if off + len + news.length ≤ xs.length then p else p && decide ((len + news.length) * bytes ≤ 140737488355328 ∧ len + news.length ≤ maxLen ∧ off + len ≤ xs.length)
      | _ => false
    | _, _ => false
  | .slice _ x lo hi (some m) => match hi with
    | some y => match ev t x, bound t 0 lo, ev t y, ev t m with
      | some (.sl _ xs), some l, some (.v (.int _ r)), some (.v (.int _ c)) => decide (l = 0 ∧ r = c ∧ r = xs.length)
      | some (.v (.slice none 0 0)), some l, some (.v (.int _ r)), some (.v (.int _ c)) => decide (l = 0 ∧ r = 0 ∧ c = 0)
      | some (.own _ _ _ len), some l, some (.v (.int _ r)), some (.v (.int _ c)) => decide (0 ≤ l ∧ l ≤ r ∧ r ≤ c ∧ c ≤ len)
      | _, _, _, _ => false
    | none => false
  | .slice sz x lo hi none => match ev t x, bound t 0 lo with
    | some (.sl _ xs), some l => match bound t xs.length hi with
      | some r => decide (0 ≤ l ∧ l ≤ r ∧ r ≤ xs.length)
      | none => false
    | some (.own b _ off len), some l => match get h b, bound t len hi with
      | some (.row _ sz'' xs), some r => decide (0 ≤ l ∧ l ≤ r ∧ (r ≤ len ∨ (0 < sz ∧ sz = sz'' ∧ off + r.toNat ≤ xs.length)))
      | _, _ => false
    | some (.v (.slice none 0 0)), some l => match bound t 0 hi with
      | some r => decide (l = 0 ∧ r = 0)
      | none => false
    | _, _ => false
  | .sslice x lo hi => match ev t x, bound t 0 lo with
    | some (.v (.string s)), some l => match bound t s.size hi with
      | some r => decide (0 ≤ l ∧ l ≤ r ∧ r ≤ s.size)
      | none => false
    | _, _ => false
  | .idxs x i => match ev t x, ev t i with
    | some (.v (.string s)), some (.v (.int _ n)) => decide (0 ≤ n ∧ n < s.size)
    | _, _ => false
  | .idx ag len sz x i => match ev t x, ev t i with
    | some (.agg cs), some (.v (.int _ n)) => if ag then decide (0 ≤ n ∧ n < len ∧ n.toNat * sz + sz ≤ cs.length) else decide (0 ≤ n ∧ n < len)
    | _, _ => false
  | .appz _ _ bytes _ _ x => match ev t x with
    | some (.v (.int _ n)) => decide (0 < n ∧ n * bytes ≤ 140737488355328 ∧ n ≤ 9223372036854775807)
    | _ => false
  | .clr _ _ x => match ev t x with
    | some (.own b _ off len) => match get h b with
      | some (.row _ _ xs) => decide (off + len ≤ xs.length)
      | _ => false
    | _ => false
  | .copy sz d x => match ev t d, contentsB h sz (ev t x) with
    | some (.own b _ off len), some (p, _) => match get h b with
      | some (.row _ _ xs) => p && decide (off + len ≤ xs.length)
      | _ => false
    | _, _ => false
  | .faddr _ x => match ev t x with
    | some (.rp b _ k _) => match get h b with
      | some (.row _ _ xs) => decide (k < xs.length)
      | _ => false
    | _ => true
  | .iaddr _ x i => match ev t x, ev t i with
    | some (.sl _ xs), some (.v (.int _ n)) => decide (0 ≤ n ∧ n < xs.length)
    | some (.own _ _ _ len), some (.v (.int _ n)) => decide (0 ≤ n ∧ n < len)
    | _, _ => false
  | _ => true
theorem contents_some {h : List (Nat × Ob)} {sz : Nat} {x : Option AV} {p : Prop} {xs : List (List AV)} (e : contentsN h sz x = some (p, xs)) : ∃ q : Bool, contentsB h sz x = some (q, xs) ∧ (q = true → p) := by
  rw [contents_eq] at e
  cases hc : contentsB h sz x with
  | none => rw [hc] at e; cases e
  | some r =>
    rw [hc] at e
    obtain ⟨q, ys⟩ := r
    simp only [Option.map_some, Option.some.injEq, Prod.mk.injEq] at e
    obtain ⟨rfl, rfl⟩ := e
    exact ⟨q, rfl, fun h => h⟩
theorem sbinP_some {op : BinOp} {a b : Value} {p : Prop} {c : Value} (e : sbinP op a b = some (p, c)) : ∃ q : Bool, sbinPB op a b = some (q, c) ∧ (q = true → p) := by
  rw [sbinP_eq] at e
  cases hc : sbinPB op a b with
  | none => rw [hc] at e; cases e
  | some r =>
    rw [hc] at e
    obtain ⟨q, ys⟩ := r
    simp only [Option.map_some, Option.some.injEq, Prod.mk.injEq] at e
    obtain ⟨rfl, rfl⟩ := e
    exact ⟨q, rfl, fun h => h⟩
set_option maxHeartbeats 4000000 in
theorem preB_ok {nm : Nat} {t : List (Nat × AV)} {h : List (Nat × Ob)} {op : SOp} {e : E} (he : eff nm t h op = some e) (hp : preB t h op = true) : e.pre := by
  cases op
  case bin op x y =>
    simp only [eff, E.ok] at he
    split at he
    · rename_i a b h1 h2
      split at he
      · cases he; trivial
      · rename_i hn
        split at he
        · rename_i p c hs
          cases he
          obtain ⟨q, h3, h4⟩ := sbinP_some hs
          simp only [preB, h1, h2, hn, h3] at hp
          exact h4 hp
        · cases he
    · cases he
  case b2s x =>
    simp only [eff, E.ok] at he
    split at he
    · rename_i p xs h1
      split at he
      · cases he
        obtain ⟨q, h3, h4⟩ := contents_some h1
        simp only [preB, h3] at hp
        exact h4 hp
      · cases he
    · cases he
  case app ty sz bytes zs x y =>
    simp only [eff, E.ok] at he
    split at he
    · rename_i p news h1 h2
      cases he
      obtain ⟨q, h3, h4⟩ := contents_some h2
      simp only [preB, h1, h3, Bool.and_eq_true, decide_eq_true_eq] at hp
      exact ⟨h4 hp.1, hp.2⟩
    · rename_i sz' xs p news h1 h2
      split at he
      · obtain ⟨q, h3, h4⟩ := contents_some h2
        split at he
        · rename_i hpos
          cases he
          simp only [preB, h1, h3, if_pos hpos, Bool.and_eq_true, decide_eq_true_eq] at hp
          exact ⟨h4 hp.1, hp.2⟩
        · rename_i hpos
          cases he
          simp only [preB, h1, h3, if_neg hpos] at hp
          exact h4 hp
      · cases he
    · rename_i b sz' off len p news h1 h2
      split at he
      · rename_i e' sz'' xs hg
        split at he
        · obtain ⟨q, h3, h4⟩ := contents_some h2
          split at he
          · rename_i hrm
            cases he
            simp only [preB, h1, h3, hg, if_pos hrm] at hp
            exact h4 hp
          · rename_i hrm
            cases he
            simp only [preB, h1, h3, hg, if_neg hrm, Bool.and_eq_true, decide_eq_true_eq] at hp
            exact ⟨h4 hp.1, hp.2⟩
        · cases he
      · cases he
    · cases he
  case copy sz d x =>
    simp only [eff] at he
    split at he
    · rename_i b sz' off len p ys h1 h2
      split at he
      · rename_i e' sz'' xs hg
        split at he
        · simp only [Option.some.injEq] at he; subst he
          obtain ⟨q, h3, h4⟩ := contents_some h2
          simp only [preB, h1, h3, hg, Bool.and_eq_true, decide_eq_true_eq] at hp
          exact ⟨h4 hp.1, hp.2⟩
        · cases he
      · cases he
    · cases he
  case mkslice ty sz bytes zs l c =>
    simp only [eff, E.ok] at he
    split at he
    · rename_i k n k' m h1 h2
      cases he
      simp only [preB, h1, h2, decide_eq_true_eq] at hp
      exact hp
    · cases he
  case slice sz x lo hi mx =>
    cases mx with
    | none => simp only [eff, E.ok] at he; (repeat' split at he) <;> simp_all [preB] <;> (subst he; simp_all)
    | some m =>
      cases hi with
      | none => simp only [preB] at hp; cases hp
      | some y =>
        simp only [eff] at he
        simp only [preB] at hp
        split at hp
        · rename_i sz' xs l k r k' c h1 h2 h3 h4
          simp only [h1, h2, h3, h4] at he
          split at he
          · simp only [Option.some.injEq] at he; subst he; simpa only [decide_eq_true_eq] using hp
          · cases he
        · rename_i l k r k' c h1 h2 h3 h4
          simp only [h1, h2, h3, h4, Option.some.injEq] at he
          subst he
          simpa only [decide_eq_true_eq] using hp
        · rename_i b sz' off len l k r k' c h1 h2 h3 h4
          simp only [h1, h2, h3, h4] at he
          split at he
          · split at he
            · simp_all only [Option.some.injEq, decide_eq_true_eq]
              subst he
              simp_all
            · cases he
          · cases he
        · cases hp
  all_goals (simp only [eff, E.ok] at he; (repeat' split at he) <;> simp_all [preB] <;> (subst he; simp_all))
end Go.Eng

namespace Go.Eng
open Go
def sendsB (S : List (Nat × Nat)) (k b : Nat) : Bool := match get S k with
  | some c => c == b
  | none => false
theorem sendsB_ok {S : List (Nat × Nat)} {k b : Nat} (h : sendsB S k b = true) : get S k = some b := by
  unfold sendsB at h
  split at h
  · rename_i c hc; rw [hc, eq_of_beq h]
  · cases h
mutual
def tr (h : List (Nat × Ob)) (S inv : List (Nat × Nat)) : AV → Option AV
  | .own b sz off len => match get inv b with
    | some k => bif sendsB S k b then some (.own k sz off len) else none
    | none => bif (S.map Prod.snd).contains b then none else match get h b with
      | some (.row _ sz'' xs) => if sz = sz'' ∧ off + len ≤ xs.length then some (.sl sz ((xs.drop off).take len)) else none
      | _ => none
  | .rp b sz i j => match get inv b with
    | some k => bif sendsB S k b then some (.rp k sz i j) else none
    | none => bif (S.map Prod.snd).contains b then none else match get h b with
      | some (.row _ sz'' xs) => if sz = sz'' ∧ i < xs.length then some (.pel (nth xs i) j) else none
      | _ => none
  | .ptr b j => match get inv b with
    | some k => bif sendsB S k b then some (.ptr k j) else none
    | none => none
  | .mp b => match get inv b with
    | some k => bif sendsB S k b then some (.mp k) else none
    | none => none
  | .agg cs => match trL h S inv cs with
    | some ys => some (.agg ys)
    | none => none
  | .tup cs => match trL h S inv cs with
    | some ys => some (.tup ys)
    | none => none
  | .fn f cs => match trL h S inv cs with
    | some ys => some (.fn f ys)
    | none => none
  | .v a => some (.v a)
  | .sl sz xs => some (.sl sz xs)
  | .pel cs j => some (.pel cs j)
def trL (h : List (Nat × Ob)) (S inv : List (Nat × Nat)) : List AV → Option (List AV)
  | [] => some []
  | c :: cs => match tr h S inv c with
    | some y => match trL h S inv cs with
      | some ys => some (y :: ys)
      | none => none
    | none => none
end
theorem contains_no {S : List Nat} {b : Nat} (h : S.contains b = false) : b ∉ S := by
  intro hm
  rw [List.contains_iff_mem.2 hm] at h
  cases h
mutual
theorem tr_rv {h : List (Nat × Ob)} {S inv : List (Nat × Nat)} : ∀ (x y : AV), tr h S inv x = some y → rv h S [] y x
  | .own b sz off len, y, e => by
    simp only [tr] at e
    split at e
    · rename_i k hk
      cases hs : sendsB S k b with
      | false => rw [hs] at e; cases e
      | true => rw [hs] at e; simp only [cond_true, Option.some.injEq] at e; subst e; simp only [rv, sendsB_ok hs, and_self]
    · cases hc : (S.map Prod.snd).contains b with
      | true => rw [hc] at e; cases e
      | false =>
        rw [hc] at e
        simp only [cond_false] at e
        split at e
        · rename_i x1 sz'' xs hg
          split at e
          · rename_i h1
            simp only [Option.some.injEq] at e
            subst e
            simp only [rv, hg]
            simp only [h1.1, h1.2, and_true, true_and]
            exact contains_no hc
          · cases e
        · cases e
  | .rp b sz i j, y, e => by
    simp only [tr] at e
    split at e
    · rename_i k hk
      cases hs : sendsB S k b with
      | false => rw [hs] at e; cases e
      | true => rw [hs] at e; simp only [cond_true, Option.some.injEq] at e; subst e; simp only [rv, sendsB_ok hs, and_self]
    · cases hc : (S.map Prod.snd).contains b with
      | true => rw [hc] at e; cases e
      | false =>
        rw [hc] at e
        simp only [cond_false] at e
        split at e
        · rename_i x1 sz'' xs hg
          split at e
          · rename_i h1
            simp only [Option.some.injEq] at e
            subst e
            simp only [rv, hg]
            simp only [h1.1, h1.2, and_true, true_and]
            exact contains_no hc
          · cases e
        · cases e
  | .ptr b j, y, e => by
    simp only [tr] at e
    split at e
    · rename_i k hk
      cases hs : sendsB S k b with
      | false => rw [hs] at e; cases e
      | true => rw [hs] at e; simp only [cond_true, Option.some.injEq] at e; subst e; simp only [rv, sendsB_ok hs, and_self]
    · cases e
  | .mp b, y, e => by
    simp only [tr] at e
    split at e
    · rename_i k hk
      cases hs : sendsB S k b with
      | false => rw [hs] at e; cases e
      | true => rw [hs] at e; simp only [cond_true, Option.some.injEq] at e; subst e; simp only [rv, sendsB_ok hs]
    · cases e
  | .agg cs, y, e => by
    simp only [tr] at e
    split at e
    · rename_i ys hy; cases e; simp only [rv]; exact trL_rv cs ys hy
    · cases e
  | .tup cs, y, e => by
    simp only [tr] at e
    split at e
    · rename_i ys hy; cases e; simp only [rv]; exact trL_rv cs ys hy
    · cases e
  | .fn f cs, y, e => by
    simp only [tr] at e
    split at e
    · rename_i ys hy; cases e; simp only [rv, true_and]; exact trL_rv cs ys hy
    · cases e
  | .v a, y, e => by simp only [tr, Option.some.injEq] at e; subst e; simp only [rv]
  | .sl sz xs, y, e => by simp only [tr, Option.some.injEq] at e; subst e; simp only [rv, and_self]
  | .pel cs j, y, e => by simp only [tr, Option.some.injEq] at e; subst e; simp only [rv, and_self]
theorem trL_rv {h : List (Nat × Ob)} {S inv : List (Nat × Nat)} : ∀ (xs ys : List AV), trL h S inv xs = some ys → rvL h S [] ys xs
  | [], ys, e => by simp only [trL, Option.some.injEq] at e; subst e; simp only [rvL]
  | c :: cs, ys, e => by
    simp only [trL] at e
    split at e
    · rename_i y hy
      split at e
      · rename_i ys' hys
        cases e
        simp only [rvL]
        exact ⟨tr_rv c y hy, trL_rv cs ys' hys⟩
      · cases e
    · cases e
end
mutual
theorem tr_pure {h : List (Nat × Ob)} {S inv : List (Nat × Nat)} : ∀ (x : AV), x.pure = true → tr h S inv x = some x
  | .v a, _ => by simp only [tr]
  | .sl sz xs, _ => by simp only [tr]
  | .pel cs j, _ => by simp only [tr]
  | .agg cs, hx => by simp only [tr, trL_pure cs (by simpa only [AV.pure] using hx)]
  | .tup cs, hx => by simp only [tr, trL_pure cs (by simpa only [AV.pure] using hx)]
  | .fn f cs, hx => by simp only [tr, trL_pure cs (by simpa only [AV.pure] using hx)]
  | .own .., hx => by simp [AV.pure] at hx
  | .ptr .., hx => by simp [AV.pure] at hx
  | .rp .., hx => by simp [AV.pure] at hx
  | .mp .., hx => by simp [AV.pure] at hx
theorem trL_pure {h : List (Nat × Ob)} {S inv : List (Nat × Nat)} : ∀ (xs : List AV), pureL xs = true → trL h S inv xs = some xs
  | [], _ => by simp only [trL]
  | c :: cs, hx => by
    simp only [pureL, Bool.and_eq_true] at hx
    simp only [trL, tr_pure c hx.1, trL_pure cs hx.2]
end
def trM (h : List (Nat × Ob)) (S inv : List (Nat × Nat)) : List (Value × AV) → Option (List (Value × AV))
  | [] => some []
  | (k, x) :: l => match tr h S inv x with
    | some y => match trM h S inv l with
      | some l' => some ((k, y) :: l')
      | none => none
    | none => none
theorem trM_rv {h : List (Nat × Ob)} {S inv : List (Nat × Nat)} : ∀ (xs ys : List (Value × AV)), trM h S inv xs = some ys → rvM h S [] ys xs
  | [], ys, e => by simp only [trM, Option.some.injEq] at e; subst e; simp only [rvM]
  | (k, x) :: l, ys, e => by
    simp only [trM] at e
    split at e
    · rename_i y hy
      split at e
      · rename_i l' hl
        cases e
        simp only [rvM, true_and]
        exact ⟨tr_rv x y hy, trM_rv l l' hl⟩
      · cases e
    · cases e
def trO (h : List (Nat × Ob)) (S inv : List (Nat × Nat)) : Ob → Option Ob
  | .box cs => match trL h S inv cs with
    | some ys => some (.box ys)
    | none => none
  | .row e sz xs => some (.row e sz xs)
  | .map es => match trM h S inv es with
    | some ys => some (.map ys)
    | none => none
  | .dead => none
theorem trO_rv {h : List (Nat × Ob)} {S inv : List (Nat × Nat)} {x y : Ob} (e : trO h S inv x = some y) : rvO h S [] y x := by
  unfold trO at e
  split at e
  · split at e
    · rename_i ys hy; cases e; simp only [rvO]; exact trL_rv _ _ hy
    · cases e
  · cases e; simp only [rvO, and_self]
  · split at e
    · rename_i ys hy; cases e; simp only [rvO]; exact trM_rv _ _ hy
    · cases e
  · cases e
theorem rvH_of {h h' : List (Nat × Ob)} {S : List (Nat × Nat)} {N : List Nat} : ∀ (l : List (Nat × Nat)), (∀ k b, (k, b) ∈ l → ∃ y x, get h' k = some y ∧ get h b = some x ∧ rvO h S N y x) → rvH h S N h' l
  | [], _ => by simp only [rvH]
  | (k, b) :: l, hh => by
    obtain ⟨y, x, h1, h2, h3⟩ := hh k b (List.mem_cons_self ..)
    simp only [rvH, h1, h2]
    exact ⟨h3, rvH_of l fun k b hm => hh k b (List.mem_cons_of_mem _ hm)⟩
def exS : List Nat → Nat → List (Nat × Nat)
  | [], _ => []
  | b :: O, k => (k, b) :: exS O (k + 1)
theorem exS_mem : ∀ (O : List Nat) (k : Nat) (n b : Nat), (n, b) ∈ exS O k → ∃ i, n = k + i ∧ O[i]? = some b
  | [], k, n, b, h => by simp [exS] at h
  | a :: O, k, n, b, h => by
    simp only [exS, List.mem_cons, Prod.mk.injEq] at h
    rcases h with ⟨rfl, rfl⟩ | h
    · exact ⟨0, rfl, rfl⟩
    · obtain ⟨i, h1, h2⟩ := exS_mem O (k + 1) n b h
      exact ⟨i + 1, by omega, by simpa using h2⟩
def exV : List Nat → Nat → List (Nat × Nat)
  | [], _ => []
  | b :: O, k => (b, k) :: exV O (k + 1)
def Sid (S : List Nat) : List (Nat × Nat) := S.map fun b => (b, b)
def boxT (h : List (Nat × Ob)) (S inv : List (Nat × Nat)) : Nat → Nat → Option (List (List AV))
  | _, 0 => some []
  | i, m + 1 => match get h i with
    | some (.box cs) => match trL h S inv cs with
      | some ys => match boxT h S inv (i + 1) m with
        | some l => some (ys :: l)
        | none => none
      | none => none
    | _ => none
theorem boxT_get {h : List (Nat × Ob)} {S inv : List (Nat × Nat)} : ∀ (m i : Nat) (l : List (List AV)), boxT h S inv i m = some l → l.length = m ∧ ∀ k, k < m → ∃ cs ys, get h (i + k) = some (.box cs) ∧ l[k]? = some ys ∧ trL h S inv cs = some ys
  | 0, i, l, e => by simp only [boxT, Option.some.injEq] at e; subst e; exact ⟨rfl, fun k hk => absurd hk (by omega)⟩
  | m + 1, i, l, e => by
    simp only [boxT] at e
    split at e
    · rename_i cs hg
      split at e
      · rename_i ys hy
        split at e
        · rename_i l' hl
          cases e
          obtain ⟨h1, h2⟩ := boxT_get m (i + 1) l' hl
          refine ⟨by simp [h1], fun k hk => ?_⟩
          cases k with
          | zero => exact ⟨cs, ys, hg, rfl, hy⟩
          | succ k =>
            obtain ⟨cs', ys', h3, h4, h5⟩ := h2 k (by omega)
            exact ⟨cs', ys', by rw [show i + (k + 1) = i + 1 + k by omega]; exact h3, by simpa using h4, h5⟩
        · cases e
      · cases e
    · cases e
def obE (h : List (Nat × Ob)) : List Nat → Option (List Ob)
  | [] => some []
  | b :: O => match get h b with
    | some (.row e sz xs) => match obE h O with
      | some l => some (.row e sz xs :: l)
      | none => none
    | some (.box cs) => bif pureL cs then match obE h O with
      | some l => some (.box cs :: l)
      | none => none else none
    | _ => none
theorem obE_get {h : List (Nat × Ob)} : ∀ (O : List Nat) (l : List Ob), obE h O = some l → l.length = O.length ∧ ∀ (i b : Nat), O[i]? = some b → ∃ o, l[i]? = some o ∧ get h b = some o ∧ rowOk o = true
  | [], l, e => by simp only [obE, Option.some.injEq] at e; subst e; exact ⟨rfl, fun i b h => by simp at h⟩
  | a :: O, l, e => by
    simp only [obE] at e
    split at e
    · rename_i e1 sz xs hg
      split at e
      · rename_i l' hl
        cases e
        obtain ⟨h1, h2⟩ := obE_get O l' hl
        refine ⟨by simp [h1], fun i b hi => ?_⟩
        cases i with
        | zero => simp at hi; subst hi; exact ⟨_, rfl, hg, rfl⟩
        | succ i => simpa using h2 i b (by simpa using hi)
      · cases e
    · rename_i cs hg
      cases hp : pureL cs with
      | false => rw [hp] at e; cases e
      | true =>
        rw [hp] at e
        simp only [cond_true] at e
        split at e
        · rename_i l' hl
          cases e
          obtain ⟨h1, h2⟩ := obE_get O l' hl
          refine ⟨by simp [h1], fun i b hi => ?_⟩
          cases i with
          | zero => simp at hi; subst hi; exact ⟨_, rfl, hg, hp⟩
          | succ i => simpa using h2 i b (by simpa using hi)
        · cases e
    · cases e
def finG (m : Nat) (O : List Nat) (vs : List AV) (h : List (Nat × Ob)) : Option (AV × List (List AV) × List Ob) :=
  match tr h (Sid (List.range m) ++ exS O 4) (Sid (List.range m) ++ exV O 4) (retOne vs) with
  | some r => match boxT h (Sid (List.range m) ++ exS O 4) (Sid (List.range m) ++ exV O 4) 0 m with
    | some bs => match obE h O with
      | some es => bif decide (m ≤ 4) && okS h (Sid (List.range m) ++ exS O 4) [] (outs bs es) then some (r, bs, es) else none
      | none => none
    | none => none
  | none => none
theorem finG_ok {m : Nat} {O : List Nat} {vs : List AV} {t : List (Nat × AV)} {h : List (Nat × Ob)} {res : List SRes} {r : AV} {bs : List (List AV)} {es : List Ob} (hv : retV t h res = some vs) (e : finG m O vs h = some (r, bs, es)) :
    Fin res r bs es t h ∧ bs.length = m ∧ es.all rowOk = true := by
  simp only [finG] at e
  split at e
  · rename_i r' hr
    split at e
    · rename_i bs' hb
      split at e
      · rename_i es' he
        cases ho : (decide (m ≤ 4) && okS h (Sid (List.range m) ++ exS O 4) [] (outs bs' es')) with
        | false => rw [ho] at e; cases e
        | true =>
          rw [ho] at e
          simp only [cond_true, Option.some.injEq, Prod.mk.injEq] at e
          obtain ⟨rfl, rfl, rfl⟩ := e
          simp only [Bool.and_eq_true, decide_eq_true_eq] at ho
          obtain ⟨hm, ho⟩ := ho
          obtain ⟨hl, hg⟩ := boxT_get _ _ _ hb
          obtain ⟨hl', hg'⟩ := obE_get _ _ he
          refine ⟨⟨_, [], vs, hv, ho, rvH_of _ fun k b hmem => ?_, by simp only [rvN], tr_rv _ _ hr⟩, hl, ?_⟩
          · rcases List.mem_append.1 hmem with hmem | hmem
            · simp only [Sid, List.mem_map, List.mem_range, Prod.mk.injEq] at hmem
              obtain ⟨i, hi, rfl, rfl⟩ := hmem
              obtain ⟨cs, ys, h1, h2, h3⟩ := hg i hi
              rw [Nat.zero_add] at h1
              exact ⟨.box ys, .box cs, get_outs_box h2, h1, trL_rv _ _ h3⟩
            · obtain ⟨i, rfl, hi⟩ := exS_mem _ _ _ _ hmem
              obtain ⟨o, h1, h2, h3⟩ := hg' i b hi
              refine ⟨o, o, get_outs_exp (by omega) h1, h2, ?_⟩
              cases o with
              | row e sz xs => simp only [rvO, and_self]
              | box cs => simp only [rvO]; exact rvL_pure cs h3
              | map es => simp [rowOk] at h3
              | dead => simp [rowOk] at h3
          · rw [List.all_eq_true]
            intro o ho'
            obtain ⟨i, hi⟩ := List.mem_iff_getElem?.1 ho'
            have hlt := (List.getElem?_eq_some_iff.1 hi).1
            obtain ⟨o', h1, _, h3⟩ := hg' i _ (List.getElem?_eq_getElem (show i < O.length by omega))
            rw [hi] at h1
            cases h1
            exact h3
      · cases e
    · cases e
  · cases e
def visG {α : Type} : List (Nat × α) → List Nat → List (Nat × α)
  | [], _ => []
  | (k, x) :: l, seen => bif seen.contains k then visG l seen else (k, x) :: visG l (k :: seen)
theorem visG_get {α : Type} : ∀ (l : List (Nat × α)) (seen : List Nat) (k : Nat) (x : α), (k, x) ∈ visG l seen → get l k = some x ∧ seen.contains k = false
  | [], seen, k, x, h => by simp [visG] at h
  | (a, y) :: l, seen, k, x, h => by
    simp only [visG] at h
    cases hc : seen.contains a with
    | true =>
      rw [hc] at h
      simp only [cond_true] at h
      obtain ⟨h1, h2⟩ := visG_get l seen k x h
      have : a ≠ k := by intro e; subst e; rw [hc] at h2; cases h2
      exact ⟨by rw [get_ne _ _ _ _ this]; exact h1, h2⟩
    | false =>
      rw [hc] at h
      simp only [cond_false, List.mem_cons, Prod.mk.injEq] at h
      rcases h with ⟨rfl, rfl⟩ | h
      · exact ⟨get_same _ _ _, hc⟩
      · obtain ⟨h1, h2⟩ := visG_get l (a :: seen) k x h
        simp only [List.contains_cons, Bool.or_eq_false_iff, beq_eq_false_iff_ne, ne_eq] at h2
        exact ⟨by rw [get_ne _ _ _ _ (fun e => h2.1 e.symm)]; exact h1, h2.2⟩
def liveN (Z : List Nat) : List (Nat × Ob) → List Nat
  | [] => []
  | (_, .dead) :: l => liveN Z l
  | (k, _) :: l => bif Z.contains k then liveN Z l else k :: liveN Z l
def frzH (h : List (Nat × Ob)) (S : List (Nat × Nat)) : List Nat → Option (List (Nat × Ob))
  | [] => some []
  | b :: l => match get h b with
    | some o => match trO h S S o with
      | some y => match frzH h S l with
        | some h' => some ((b, y) :: h')
        | none => none
      | none => none
    | none => none
theorem frzH_get {h : List (Nat × Ob)} {S : List (Nat × Nat)} : ∀ (L : List Nat) (h' : List (Nat × Ob)), frzH h S L = some h' → ∀ b ∈ L, ∃ y x, get h' b = some y ∧ get h b = some x ∧ rvO h S [] y x
  | [], h', e, b, hb => by simp at hb
  | a :: l, h', e, b, hb => by
    simp only [frzH] at e
    split at e
    · rename_i x hg
      split at e
      · rename_i y hy
        split at e
        · rename_i h0 hl
          cases e
          by_cases hab : a = b
          · subst hab; exact ⟨y, x, get_same _ _ _, hg, trO_rv hy⟩
          · have hb' : b ∈ l := by
              rcases List.mem_cons.1 hb with h | h
              · exact absurd h.symm hab
              · exact h
            obtain ⟨y', x', h1, h2, h3⟩ := frzH_get l h0 hl b hb'
            exact ⟨y', x', by rw [get_ne _ _ _ _ hab]; exact h1, h2, h3⟩
        · cases e
      · cases e
    · cases e
def frzT (h : List (Nat × Ob)) (S : List (Nat × Nat)) : List (Nat × AV) → List (Nat × AV)
  | [] => []
  | (k, x) :: l => match tr h S S x with
    | some y => (k, y) :: frzT h S l
    | none => frzT h S l
theorem frzT_rv {h : List (Nat × Ob)} {S : List (Nat × Nat)} {t : List (Nat × AV)} : ∀ (l : List (Nat × AV)), (∀ k x, (k, x) ∈ l → get t k = some x) → rvT h S [] t (frzT h S l)
  | [], _ => by simp only [frzT, rvT]
  | (k, x) :: l, hh => by
    simp only [frzT]
    split
    · rename_i y hy
      simp only [rvT, hh k x (List.mem_cons_self ..)]
      exact ⟨tr_rv _ _ hy, frzT_rv l fun k x hm => hh k x (List.mem_cons_of_mem _ hm)⟩
    · exact frzT_rv l fun k x hm => hh k x (List.mem_cons_of_mem _ hm)
def frz (Z : List Nat) (t : List (Nat × AV)) (h : List (Nat × Ob)) : Option (List (Nat × AV) × List (Nat × Ob)) :=
  match frzH h (Sid (liveN Z (visG h []))) (liveN Z (visG h [])) with
  | some h' => bif okS h (Sid (liveN Z (visG h []))) [] h' then some (frzT h (Sid (liveN Z (visG h []))) (visG t []), h') else none
  | none => none
theorem frz_ok {Z : List Nat} {t t' : List (Nat × AV)} {h h' : List (Nat × Ob)} (e : frz Z t h = some (t', h')) : WkTH t h t' h' := by
  simp only [frz] at e
  generalize liveN Z (visG h []) = S at e
  split at e
  · rename_i h0 hh
    cases ho : okS h (Sid S) [] h0 with
    | false => rw [ho] at e; cases e
    | true =>
      rw [ho] at e
      simp only [cond_true, Option.some.injEq, Prod.mk.injEq] at e
      obtain ⟨rfl, rfl⟩ := e
      refine WkTH.mk (Sid S) (by simp [Sid]) ho (rvH_of _ fun k b hm => ?_) (frzT_rv _ fun k x hm => (visG_get _ _ _ _ hm).1)
      simp only [Sid, List.mem_map, Prod.mk.injEq] at hm
      obtain ⟨i, hi, rfl, rfl⟩ := hm
      exact frzH_get _ _ hh i hi
  · cases e
end Go.Eng

namespace Go.Eng
open Go
abbrev RunT := FuncId → List AV → List (List AV) → List Ob → Option (List AV × List (Nat × Ob))
def RunOk (P : Program) (run : RunT) : Prop := ∀ f xs bs gs vs h, run f xs bs gs = some (vs, h) → ∃ t res, retV t h res = some vs ∧ ∀ r bs' es, Fin res r bs' es t h → FnG P f xs bs gs r bs' es
theorem FnG.toFn {P : Program} {f : FuncId} {xs : List AV} {bs bs' : List (List AV)} {r : AV} {es : List Ob} (hF : FnG P f xs bs [] r bs' es) : Fn P f xs bs r bs' es :=
  ⟨hF.1, fun C ρ U w vals hr hU hv => hF.2 C ρ U w vals (by simpa [outs, obsFrom] using hr) (fun b hb => by have := hU b hb; omega) hv⟩
def boxN (h : List (Nat × Ob)) (L : List Nat) : List Nat := L.filter fun b => match get h b with
  | some (.box _) => true
  | _ => false
def rowN (h : List (Nat × Ob)) (L : List Nat) : List Nat := L.filter fun b => match get h b with
  | some (.row _ _ _) => true
  | _ => false
def cont (h : List (Nat × Ob)) (B : List Nat) : List Nat := B.flatMap fun b => match get h b with
  | some (.box cs) => deepL cs
  | _ => []
def reachN (h : List (Nat × Ob)) (ys : List AV) : List Nat :=
  let B := (boxN h (deepL ys)).eraseDups
  match B with
  | [] => []
  | B => let B := (B ++ boxN h (cont h B)).eraseDups
    (B ++ boxN h (cont h B)).eraseDups
def topO (m : Nat) : List AV → List Nat
  | [] => []
  | .own b _ _ _ :: l => b :: topO m l
  | .ptr b _ :: l => bif Nat.blt b m then topO m l else b :: topO m l
  | _ :: l => topO m l
def ownsL : List AV → List Nat
  | [] => []
  | .own b _ _ _ :: l => b :: ownsL l
  | _ :: l => ownsL l
def naB : Ob → Bool
  | .row _ _ xs => xs.all naL
  | .box cs => naL cs
  | _ => false
theorem naL_all : ∀ (cs : List AV), naL cs = true → ∀ c ∈ cs, na c = true
  | [], _, c, h => by simp at h
  | x :: cs, hh, c, h => by
    simp only [naL, Bool.and_eq_true] at hh
    rcases List.mem_cons.1 h with rfl | h
    · exact hh.1
    · exact naL_all cs hh.2 c h
theorem naB_ok {o : Ob} (h : naB o = true) : rowNa o := by
  cases o with
  | row e sz xs =>
    simp only [naB, List.all_eq_true] at h
    exact fun x hx c hc => naL_all x (h x hx) c hc
  | box cs => exact naL_all cs h
  | map es => simp [naB] at h
  | dead => simp [naB] at h
def boxL (Bx : List (Nat × List AV)) : List (Nat × Ob) := Bx.map fun p => (p.1, Ob.box p.2)
section
variable {C : Ctx} {ρ : Nat → Loc} {U : Nat → Prop} {h : List (Nat × Ob)} {w : World}
theorem killLoc_eq (hr : HR C ρ U h w) (Z : List Nat) : newLoc ρ (stay h Z) [] = killLoc ρ Z := by
  funext k
  simp only [newLoc, get_stay, killLoc]
  by_cases hkz : k ∈ Z
  · simp [hkz]
  · by_cases hkh : k ∈ h.map Prod.fst
    · rw [if_pos ⟨hkh, hkz⟩, if_neg hkz]
    · rw [if_neg (fun h => hkh h.1), if_neg hkz]
      have : get h k = none := by
        cases hg : get h k with
        | none => rfl
        | some o => exact absurd (List.mem_map.2 ⟨_, get_mem hg, rfl⟩) hkh
      rw [hr.hd k this]; simp
theorem newU_sub (hr : HR C ρ U h w) (Z : List Nat) : ∀ k, newU (stay h Z) [] k → U k := by
  intro k hk
  rcases hk with hk | hk
  · obtain ⟨c, hc⟩ := get_keys hk
    rw [get_stay] at hc
    split at hc
    · rename_i h1
      obtain ⟨o, ho⟩ := get_keys h1.1
      exact (hr.hp k o ho).1
    · cases hc
  · simp at hk
theorem HR.rebox (hr : HR C ρ U h w) (Z : List Nat) : ∀ (Bx : List (Nat × List AV)) (U1 : Nat → Prop) (h1 : List (Nat × Ob)), (∀ p ∈ Bx, p.1 ∉ Z ∧ ∃ cs, get h p.1 = some (.box cs) ∧ rvL h (stay h Z) [] p.2 cs) →
    (∀ k, U1 k → U k) → (∀ k, U k → U1 k) → HR C (killLoc ρ Z) U1 h1 w → ∃ U2, (∀ k, U2 k → U k) ∧ (∀ k, U k → U2 k) ∧ HR C (killLoc ρ Z) U2 (boxL Bx ++ h1) w
  | [], U1, h1, _, hU1, hU2, hr1 => ⟨U1, hU1, hU2, hr1⟩
  | (b, ds) :: Bx, U1, h1, hB, hU1, hU2, hr1 => by
    obtain ⟨U2, hu1, hu2, hr2⟩ := HR.rebox hr Z Bx U1 h1 (fun p hp => hB p (List.mem_cons_of_mem _ hp)) hU1 hU2 hr1
    obtain ⟨hbZ, cs, hg, hv⟩ := hB (b, ds) (List.mem_cons_self ..)
    simp only at hbZ hg hv
    obtain ⟨hub, g, o, n, e, cells, h1', h2', h3', h4', h5'⟩ := hr.hp b _ hg
    have hkl : killLoc ρ Z b = ρ b := by unfold killLoc; rw [if_neg hbZ]
    have hm : Moved C (killLoc ρ Z) U2 (boxL Bx ++ h1) w b (killLoc ρ Z b) w := ⟨rfl, rfl, rfl, Nat.le_refl _, fun _ _ _ => rfl, .inl ⟨hu2 _ hub, rfl⟩⟩
    have hup : up (killLoc ρ Z) b (killLoc ρ Z b) = killLoc ρ Z := by
      funext k
      unfold up
      by_cases e : k = b
      · rw [if_pos e, e]
      · rw [if_neg e]
    have hl := rvL_len _ _ hv
    have := hm.hr hr2 (ob := .box ds) (fun _ => ⟨ds, rfl⟩) (by
      rw [hup, hkl]
      refine ⟨g, o, n, e, cells, h1', h2', h3', by omega, fun j c hj => ?_⟩
      obtain ⟨x, hx, hxv⟩ := rvL_get _ _ hv j c hj
      obtain ⟨u, hu, huv⟩ := h5' j x hx
      have := rv_vr hr huv c hxv
      rw [killLoc_eq hr Z] at this
      exact ⟨u, hu, this.mono (fun _ h => h) (fun _ _ => rfl) (fun k hk => .inl (hu2 _ (newU_sub hr Z k hk))) (fun _ _ => .inl rfl)⟩)
    rw [hup] at this
    refine ⟨addU U2 b, fun k hk => ?_, fun k hk => .inl (hu2 k hk), this⟩
    rcases hk with hk | rfl
    · exact hu1 k hk
    · exact hub
theorem wpCall_fb {P : Program} {nm : Nat} {f : FuncId} {args args' : List AV} {Q : AV → List (Nat × Ob) → Prop} (Z : List Nat) (Bx : List (Nat × List AV))
    (hz : ∀ b ∈ Z, ∃ e sz xs, get h b = some (.row e sz xs)) (hB : ∀ p ∈ Bx, p.1 ∉ Z ∧ ∃ cs, get h p.1 = some (.box cs) ∧ rvL h (stay h Z) [] p.2 cs)
    (ha : rvL h (stay h Z) [] args' args) (hk : wpCall P nm f args' (boxL Bx ++ (kills Z ++ h)) Q) : wpCall P nm f args h Q := by
  refine ⟨hk.1, fun C ρ U w vals hr hU hv => ?_⟩
  obtain ⟨U0, hU1, hU2, hr0⟩ := hr.kills Z hz
  obtain ⟨U', hV1, hV2, hr'⟩ := HR.rebox hr Z Bx U0 _ hB hU1 hU2 hr0
  have hlater : Later U ρ (killLoc ρ Z) := fun b _ => by
    unfold killLoc
    by_cases e : b ∈ Z
    · rw [if_pos e]; exact .inr rfl
    · rw [if_neg e]; exact .inl rfl
  have hokc : ∀ g, okc C ρ w g → okc C (killLoc ρ Z) w g := fun g hg => ⟨hg.1, hg.2.1, fun ⟨b, o, n, hb⟩ => by
    unfold killLoc at hb
    split at hb
    · cases hb
    · exact hg.2.2 ⟨b, o, n, hb⟩⟩
  have hl := rvL_len _ _ ha
  have hv' : VL w (okc C (killLoc ρ Z) w) (killLoc ρ Z) U' args' vals := by
    refine ⟨by rw [hl]; exact hv.1, fun i x u hi hu => ?_⟩
    obtain ⟨y, hy, hxy⟩ := rvL_get _ _ ha i x hi
    have := rv_vr hr (hv.2 i y u hy hu) x hxy
    rw [killLoc_eq hr Z] at this
    exact this.mono (fun _ h => h) (fun _ _ => rfl) (fun k hk => hV2 k (newU_sub hr Z k hk)) (fun _ _ => .inl rfl)
  refine (hk.2 C (killLoc ρ Z) U' w vals hr' (fun b hb => hU b (hV1 b hb)) hv').mono fun e w' hpost => ?_
  obtain ⟨v, r, h', ρ', U'', rfl, h1, h2, h3, h4, h5⟩ := hpost
  exact ⟨v, r, h', ρ', U'', rfl, h1, h2, fun x u hx => h3 x u (hx.mono hokc (fun _ _ => rfl) hV2 hlater), fun b hb => (h4 b hb).imp (hV1 b) id, h5⟩
end
theorem stay_in {h : List (Nat × Ob)} {Z : List Nat} {k b : Nat} (e : get (stay h Z) k = some b) : k = b ∧ k ∉ Z ∧ ∃ o, get h k = some o := by
  rw [get_stay] at e
  split at e
  · rename_i h1
    cases e
    exact ⟨rfl, h1.2, get_keys h1.1⟩
  · cases e
theorem stay_of {h : List (Nat × Ob)} {Z : List Nat} {k : Nat} {o : Ob} (e : get h k = some o) (hz : k ∉ Z) : get (stay h Z) k = some k := by
  rw [get_stay, if_pos ⟨List.mem_map.2 ⟨_, get_mem e, rfl⟩, hz⟩]
theorem stay_snd {h : List (Nat × Ob)} {Z : List Nat} {b : Nat} : b ∈ (stay h Z).map Prod.snd → b ∉ Z := by
  intro hm
  simp only [stay, List.map_map, List.mem_map, List.mem_filter, Function.comp] at hm
  obtain ⟨a, ⟨_, h2⟩, rfl⟩ := hm
  simpa using h2
theorem stay_snd_of {h : List (Nat × Ob)} {Z : List Nat} {b : Nat} {o : Ob} (e : get h b = some o) (hn : b ∉ (stay h Z).map Prod.snd) : b ∈ Z := by
  apply Classical.byContradiction
  intro hz
  refine hn ?_
  have := get_mem (stay_of e hz)
  exact List.mem_map.2 ⟨_, this, rfl⟩
mutual
theorem rv_stay2 {h h' : List (Nat × Ob)} {Z : List Nat} : ∀ (y x : AV), (∀ b ∈ deep x, get h' b = get h b) → rv h (stay h Z) [] y x → rv h' (stay h' Z) [] y x
  | .own k sz off len, x, hh, hx => by
    cases x <;> simp only [rv] at hx ⊢
    · split at hx
      · rename_i heq; cases heq
      · rename_i heq; cases heq; exact absurd hx.1 (by simp)
      · exact hx.elim
    · rename_i b sz' off' len'
      obtain ⟨h1, h2⟩ := hx
      obtain ⟨rfl, h3, o, h4⟩ := stay_in h1
      exact ⟨stay_of (by rw [hh _ (by simp [deep])]; exact h4) h3, h2⟩
  | .ptr k j, x, hh, hx => by
    cases x <;> simp only [rv] at hx ⊢
    obtain ⟨h1, h2⟩ := hx
    obtain ⟨rfl, h3, o, h4⟩ := stay_in h1
    exact ⟨stay_of (by rw [hh _ (by simp [deep])]; exact h4) h3, h2⟩
  | .rp k sz i j, x, hh, hx => by
    cases x <;> simp only [rv] at hx ⊢
    obtain ⟨h1, h2⟩ := hx
    obtain ⟨rfl, h3, o, h4⟩ := stay_in h1
    exact ⟨stay_of (by rw [hh _ (by simp [deep])]; exact h4) h3, h2⟩
  | .mp k, x, hh, hx => by
    cases x <;> simp only [rv] at hx ⊢
    obtain ⟨rfl, h3, o, h4⟩ := stay_in hx
    exact stay_of (by rw [hh _ (by simp [deep])]; exact h4) h3
  | .sl sz ys, x, hh, hx => by
    cases x <;> simp only [rv] at hx ⊢
    · split at hx
      · rename_i heq; cases heq
      · rename_i heq; cases heq; exact hx
      · rename_i heq; cases heq
      · exact hx.elim
    · exact hx
    · rename_i b sz' off' len'
      obtain ⟨h1, h2, h3⟩ := hx
      rw [hh b (by simp [deep])]
      refine ⟨fun hm => ?_, h2, h3⟩
      split at h3
      · rename_i e sz2 xs hg; exact stay_snd hm (stay_snd_of hg h1)
      · exact h3
  | .pel cs j, x, hh, hx => by
    cases x <;> simp only [rv] at hx ⊢
    · rename_i b sz' i' j'
      obtain ⟨h1, h2, h3⟩ := hx
      rw [hh b (by simp [deep])]
      refine ⟨fun hm => ?_, h2, h3⟩
      split at h3
      · rename_i e sz2 xs hg; exact stay_snd hm (stay_snd_of hg h1)
      · exact h3
    · exact hx
  | .agg ys, x, hh, hx => by
    cases x <;> simp only [rv] at hx ⊢
    exact rvL_stay2 ys _ (by simpa only [deep] using hh) hx
  | .tup ys, x, hh, hx => by
    cases x <;> simp only [rv] at hx ⊢
    exact rvL_stay2 ys _ (by simpa only [deep] using hh) hx
  | .fn f ys, x, hh, hx => by
    cases x <;> simp only [rv] at hx ⊢
    exact ⟨hx.1, rvL_stay2 ys _ (by simpa only [deep] using hh) hx.2⟩
  | .v a, x, hh, hx => by simp only [rv] at hx ⊢; exact hx
theorem rvL_stay2 {h h' : List (Nat × Ob)} {Z : List Nat} : ∀ (ys xs : List AV), (∀ b ∈ deepL xs, get h' b = get h b) → rvL h (stay h Z) [] ys xs → rvL h' (stay h' Z) [] ys xs
  | [], [], _, _ => by simp only [rvL]
  | y :: ys, x :: xs, hh, hx => by
    simp only [rvL] at hx ⊢
    simp only [deepL, List.mem_append] at hh
    exact ⟨rv_stay2 y x (fun b hb => hh b (.inl hb)) hx.1, rvL_stay2 ys xs (fun b hb => hh b (.inr hb)) hx.2⟩
  | [], _ :: _, _, hx => by simp [rvL] at hx
  | _ :: _, [], _, hx => by simp [rvL] at hx
end
def fzBx (h : List (Nat × Ob)) (S : List (Nat × Nat)) : List Nat → Option (List (Nat × List AV))
  | [] => some []
  | b :: B => match get h b with
    | some (.box cs) => match trL h S S cs with
      | some ds => match fzBx h S B with
        | some l => some ((b, ds) :: l)
        | none => none
      | none => none
    | _ => none
theorem fzBx_ok {h : List (Nat × Ob)} {S : List (Nat × Nat)} : ∀ (B : List Nat) (Bx : List (Nat × List AV)), fzBx h S B = some Bx → ∀ p ∈ Bx, p.1 ∈ B ∧ ∃ cs, get h p.1 = some (.box cs) ∧ rvL h S [] p.2 cs
  | [], Bx, e, p, hp => by simp only [fzBx, Option.some.injEq] at e; subst e; simp at hp
  | b :: B, Bx, e, p, hp => by
    simp only [fzBx] at e
    split at e
    · rename_i cs hg
      split at e
      · rename_i ds hd
        split at e
        · rename_i l hl
          cases e
          rcases List.mem_cons.1 hp with rfl | hp
          · exact ⟨List.mem_cons_self .., cs, hg, trL_rv _ _ hd⟩
          · obtain ⟨h1, h2⟩ := fzBx_ok B l hl p hp
            exact ⟨List.mem_cons_of_mem _ h1, h2⟩
        · cases e
      · cases e
    · cases e
def inB1 (h : List (Nat × Ob)) (S inv : List (Nat × Nat)) : List Nat → Option (List (List AV))
  | [] => some []
  | b :: B => match get h b with
    | some (.box cs) => match trL [] S inv cs with
      | some ds => match inB1 h S inv B with
        | some l => some (ds :: l)
        | none => none
      | none => none
    | _ => none
theorem inB1_ok {h : List (Nat × Ob)} {S inv : List (Nat × Nat)} : ∀ (B : List Nat) (bs : List (List AV)), inB1 h S inv B = some bs → boxG h S B bs
  | [], bs, e => by simp only [inB1, Option.some.injEq] at e; subst e; simp only [boxG]
  | b :: B, bs, e => by
    simp only [inB1] at e
    split at e
    · rename_i cs hg
      split at e
      · rename_i ds hd
        split at e
        · rename_i l hl
          cases e
          simp only [boxG, hg]
          exact ⟨trL_rv _ _ hd, inB1_ok B l hl⟩
        · cases e
      · cases e
    · cases e
def gsOf (h : List (Nat × Ob)) : List Nat → Option (List Ob)
  | [] => some []
  | b :: G => match get h b with
    | some (.row e sz xs) => match gsOf h G with
      | some l => some (.row e sz xs :: l)
      | none => none
    | _ => none
theorem gsOf_ok {h : List (Nat × Ob)} : ∀ (G : List Nat) (gs : List Ob), gsOf h G = some gs → rowG h G gs
  | [], gs, e => by simp only [gsOf, Option.some.injEq] at e; subst e; simp only [rowG]
  | b :: G, gs, e => by
    simp only [gsOf] at e
    split at e
    · rename_i e1 sz xs hg
      split at e
      · rename_i l hl
        cases e
        simp only [rowG, hg, isRow, and_self, true_and]
        exact gsOf_ok G l hl
      · cases e
    · cases e
def trLL (S inv : List (Nat × Nat)) : List (List AV) → Option (List (List AV))
  | [] => some []
  | c :: l => match trL [] S inv c with
    | some c' => match trLL S inv l with
      | some l' => some (c' :: l')
      | none => none
    | none => none
theorem trLL_ok {S inv : List (Nat × Nat)} : ∀ (l l' : List (List AV)), trLL S inv l = some l' → outB S l' l
  | [], l', e => by simp only [trLL, Option.some.injEq] at e; subst e; simp only [outB]
  | c :: l, l', e => by
    simp only [trLL] at e
    split at e
    · rename_i c' hc
      split at e
      · rename_i l0 hl
        cases e
        simp only [outB]
        exact ⟨trL_rv _ _ hc, trLL_ok l l0 hl⟩
      · cases e
    · cases e
theorem outE_refl {S : List (Nat × Nat)} : ∀ (es : List Ob), es.all rowOk = true → outE S es es
  | [], _ => by simp only [outE]
  | o :: es, h => by
    simp only [List.all_cons, Bool.and_eq_true] at h
    simp only [outE]
    refine ⟨?_, outE_refl es h.2⟩
    cases o with
    | row e sz xs => simp only [rvO, and_self]
    | box cs => simp only [rvO]; exact rvL_pure cs h.1
    | map es => simp [rowOk] at h
    | dead => simp [rowOk] at h
def invS (B G : List Nat) : List (Nat × Nat) := exV B 0 ++ exV G 4
def invO (B : List Nat) (nm m : Nat) : List (Nat × Nat) := (List.range B.length).map (fun i => (i, B[i]?.getD 0)) ++ (List.range m).map (fun i => (4 + i, nm + i))
def callB (tl : List AV → List Nat) (run : RunT) (nm : Nat) (h : List (Nat × Ob)) (f : FuncId) (ys : List AV) (B G Z : List Nat) : Option Rec :=
  match trL h (stay h Z) (stay h Z) ys with
  | some ys1 => match fzBx h (stay h Z) B with
    | some Bx => match trL [] (inS B G) (invS B G) ys1 with
      | some xs => match inB1 (boxL Bx ++ (kills Z ++ h)) (inS B G) (invS B G) B with
        | some bs => match gsOf (boxL Bx ++ (kills Z ++ h)) G with
          | some gs => match run f xs bs gs with
            | some (vs, h') => match finG B.length (tl vs).eraseDups vs h' with
              | some (r, bs', es) => match tr [] (outS B nm es.length) (invO B nm es.length) r with
                | some r' => match trLL (outS B nm es.length) (invO B nm es.length) bs' with
                  | some cs' => bif (decide (B.length ≤ 4) && (decide (G.length ≤ 4) && (decide ((B ++ G).Nodup) && (decide (bs'.length = B.length) && decide (es.length ≤ 8))))) && (rowsAt h Z && B.all (fun b => !Z.contains b)) then
                      some ⟨r', (obsFrom nm es ++ (boxesAt B cs' ++ kills G)) ++ (boxL Bx ++ kills Z), deepL ys ++ (B ++ (G ++ (Z ++ cont h B)))⟩ else none
                  | none => none
                | none => none
              | none => none
            | none => none
          | none => none
        | none => none
      | none => none
    | none => none
  | none => none
theorem get_two {h h' : List (Nat × Ob)} {a c : List (Nat × Ob)} {b : Nat} (e : get h' b = get h b) : get (a ++ (c ++ h')) b = get (a ++ (c ++ h)) b := by
  simp only [get_append, e]
theorem callB_ok {P : Program} {tl : List AV → List Nat} {run : RunT} (hrun : RunOk P run) {nm : Nat} {h : List (Nat × Ob)} {f : FuncId} {ys : List AV} {B G Z : List Nat} {r : Rec} (e : callB tl run nm h f ys B G Z = some r) : CallD P nm f ys h r := by
  simp only [callB] at e
  split at e
  · rename_i ys1 hy
    split at e
    · rename_i Bx hb
      split at e
      · rename_i xs hx
        split at e
        · rename_i bs hbs
          split at e
          · rename_i gs hgs
            split at e
            · rename_i vs h1 hr
              split at e
              · rename_i r0 bs' es hF
                split at e
                · rename_i r' hr'
                  split at e
                  · rename_i cs' hcs
                    obtain ⟨t, res, hv, hrun'⟩ := hrun _ _ _ _ _ _ hr
                    obtain ⟨hFin, hl, hes⟩ := finG_ok hv hF
                    have hFn := hrun' _ _ _ hFin
                    generalize hd : ((decide (B.length ≤ 4) && (decide (G.length ≤ 4) && (decide ((B ++ G).Nodup) && (decide (bs'.length = B.length) && decide (es.length ≤ 8))))) && (rowsAt h Z && B.all (fun b => !Z.contains b))) = q at e
                    cases q with
                    | false => cases e
                    | true =>
                      simp only [cond_true, Option.some.injEq] at e
                      subst e
                      obtain ⟨hd1, hd23⟩ := (Bool.and_eq_true _ _).mp hd
                      obtain ⟨hd2, hd3⟩ := (Bool.and_eq_true _ _).mp hd23
                      have hC := hFn.callD (nm := nm) (h := boxL Bx ++ (kills Z ++ h)) B G r' cs' es (trL_rv _ _ hx) (inB1_ok _ _ hbs) (gsOf_ok _ _ hgs) hd1 (trLL_ok _ _ hcs) (outE_refl es hes) (tr_rv _ _ hr')
                      intro h' hh Q hQ
                      have hbz : ∀ b ∈ B, b ∉ Z := fun b hb hz => by
                        have := List.all_eq_true.1 hd3 b hb
                        simp [hz] at this
                      refine wpCall_fb Z Bx (fun b hbz => ?_) (fun p hp => ?_) (rvL_stay2 _ _ (fun b hb => hh b (by simp [hb])) (trL_rv _ _ hy)) ?_
                      · obtain ⟨e1, sz, xs1, hx1⟩ := rowsAt_get _ hd2 b hbz
                        exact ⟨e1, sz, xs1, by rw [hh b (by simp [hbz])]; exact hx1⟩
                      · obtain ⟨h2, cs, h3, h4⟩ := fzBx_ok _ _ hb p hp
                        refine ⟨hbz _ h2, cs, by rw [hh p.1 (by simp [h2])]; exact h3, rvL_stay2 _ _ (fun b hb => hh b ?_) h4⟩
                        have : b ∈ cont h B := by
                          simp only [cont, List.mem_flatMap]
                          exact ⟨p.1, h2, by rw [h3]; exact hb⟩
                        simp [this]
                      · refine hC _ (fun b hb => get_two (hh b ?_)) Q ?_
                        · rcases List.mem_append.1 hb with hb | hb <;> simp [hb]
                        · simpa only [List.append_assoc] using hQ
                  · cases e
                · cases e
              · cases e
            · cases e
          · cases e
        · cases e
      · cases e
    · cases e
  · cases e
def callX (run : RunT) (nm : Nat) (h : List (Nat × Ob)) (f : FuncId) (ys : List AV) : Option Rec :=
  bif pureL ys then (match run f ys [] [] with
    | some (vs, h') => match finG 0 (topO 0 vs).eraseDups vs h' with
      | some (r, _, es) => bif decide (es.length ≤ 8) && expA es.length r then some ⟨sh nm r, obsFrom nm es, []⟩ else none
      | none => none
    | none => none)
  else match reachN h ys with
  | [] => match trL h [] [] ys with
    | some xs => match run f xs [] [] with
      | some (vs, h') => match finG 0 (topO 0 vs).eraseDups vs h' with
        | some (r, _, es) => bif decide (es.length ≤ 8) && expA es.length r then
            (bif na r && es.all naB then some ⟨sh nm r, obsFrom nm es, deepL ys⟩
              else bif rowsAt h (deepL ys) && pureL xs then some ⟨sh nm r, obsFrom nm es ++ kills (deepL ys), deepL ys⟩ else none)
            else none
        | none => none
      | none => callB (topO 0) run nm h f ys [] (ownsL ys).eraseDups ((rowN h (deepL ys)).filter fun b => !(ownsL ys).contains b)
    | none => none
  | B => match callB (topO B.length) run nm h f ys B [] (rowN h (deepL ys ++ cont h B)).eraseDups with
    | some r => some r
    | none => bif (ownsL ys).isEmpty then none else callB (topO B.length) run nm h f ys B (ownsL ys).eraseDups ((rowN h (deepL ys ++ cont h B)).eraseDups.filter fun b => !(ownsL ys).contains b)
theorem callX_ok {P : Program} {run : RunT} (hrun : RunOk P run) {nm : Nat} {h : List (Nat × Ob)} {f : FuncId} {ys : List AV} {r : Rec} (e : callX run nm h f ys = some r) : CallD P nm f ys h r := by
  have hfn : ∀ {xs : List AV} {vs : List AV} {h' : List (Nat × Ob)} {r0 : AV} {bs : List (List AV)} {es : List Ob} {O : List Nat}, run f xs [] [] = some (vs, h') → finG 0 O vs h' = some (r0, bs, es) → Fn P f xs [] r0 [] es ∧ es.all rowOk = true := by
    intro xs vs h' r0 bs es O hr hF
    obtain ⟨t, res, hv, hrun'⟩ := hrun _ _ _ _ _ _ hr
    obtain ⟨hFin, hl, hes⟩ := finG_ok hv hF
    have hb0 : bs = [] := List.length_eq_zero_iff.1 hl
    subst hb0
    exact ⟨(hrun' _ _ _ hFin).toFn, hes⟩
  unfold callX at e
  cases hp : pureL ys with
  | true =>
    rw [hp] at e
    simp only [cond_true] at e
    split at e
    · rename_i vs h' hr
      split at e
      · rename_i r0 bs es hF
        obtain ⟨hFn, hes⟩ := hfn hr hF
        cases hc : (decide (es.length ≤ 8) && expA es.length r0) with
        | false => rw [hc] at e; cases e
        | true =>
          rw [hc] at e
          simp only [cond_true, Option.some.injEq] at e
          subst e
          simp only [Bool.and_eq_true, decide_eq_true_eq] at hc
          exact hFn.callE hp hes hc.1 hc.2
      · cases e
    · cases e
  | false =>
    rw [hp] at e
    simp only [cond_false] at e
    split at e
    · split at e
      · rename_i xs hx
        split at e
        · rename_i vs h' hr
          split at e
          · rename_i r0 bs es hF
            obtain ⟨hFn, hes⟩ := hfn hr hF
            have ha : rvL h [] [] xs ys := trL_rv ys xs hx
            cases hc : (decide (es.length ≤ 8) && expA es.length r0) with
            | false => rw [hc] at e; cases e
            | true =>
              rw [hc] at e
              simp only [cond_true] at e
              simp only [Bool.and_eq_true, decide_eq_true_eq] at hc
              cases hn : (na r0 && es.all naB) with
              | true =>
                rw [hn] at e
                simp only [cond_true, Option.some.injEq] at e
                subst e
                simp only [Bool.and_eq_true, List.all_eq_true] at hn
                exact hFn.callS nm ha hes (fun o ho => naB_ok (hn.2 o ho)) hc.1 hc.2 hn.1
              | false =>
                rw [hn] at e
                simp only [cond_false] at e
                cases hz : (rowsAt h (deepL ys) && pureL xs) with
                | false => rw [hz] at e; cases e
                | true =>
                  rw [hz] at e
                  simp only [cond_true, Option.some.injEq] at e
                  subst e
                  simp only [Bool.and_eq_true] at hz
                  intro h2 hh Q hQ
                  refine wpCall_fz (deepL ys) (fun b hb => ?_) (rvL_stay (h := h) hh xs ys (fun b hb => hb) ha) ?_
                  · obtain ⟨e1, sz, xs1, hx1⟩ := rowsAt_get _ hz.1 b hb
                    exact ⟨e1, sz, xs1, by rw [hh b hb]; exact hx1⟩
                  · exact (hFn.callE (h := kills (deepL ys) ++ h2) hz.2 hes hc.1 hc.2) _ (fun _ _ => rfl) Q (by simpa only [List.append_assoc] using hQ)
          · cases e
        · exact callB_ok hrun e
      · cases e
    · split at e
      · rename_i r1 hr1
        cases e
        exact callB_ok hrun hr1
      · generalize (ownsL ys).isEmpty = q at e
        cases q with
        | true => cases e
        | false => exact callB_ok hrun e
end Go.Eng

namespace Go.Eng
open Go
def opX (run : RunT) (nm : Nat) (o : SOper) (t : List (Nat × AV)) (h : List (Nat × Ob)) : Option Rec :=
  match o.op with
  | .call f args => match ev t f with
    | some (.fn g caps) => match evL t args with
      | some xs => if g < 1000000 then callX run nm h g (xs ++ caps) else if g < 2000000 then callX run nm h (g - 1000000) (caps ++ xs) else none
      | none => none
    | _ => none
  | .isnil neg x => match nilK (ev t x) with
    | some (some b) => some ⟨.v (.bool (if neg then !b else b)), [], []⟩
    | _ => none
  | op => match eff2 nm t h op with
    | some e => bif preB t h op then some ⟨e.val, e.upd, rdOf t op⟩ else none
    | none => none
section
variable {P : Program} {run : RunT}
theorem effX_w {nm : Nat} {t : List (Nat × AV)} {h : List (Nat × Ob)} {op : SOp} {r : Rec} (e : (match eff2 nm t h op with
    | some e => bif preB t h op then some (⟨e.val, e.upd, rdOf t op⟩ : Rec) else none
    | none => none) = some r) (k : List (Nat × AV) → List (Nat × Ob) → E → Prop) (hk : ∀ p, k t h ⟨p, r.val, r.upd⟩) : onW nm t h op (eff nm t h op) k := by
  split at e
  · rename_i e0 h0
    cases hp : preB t h op with
    | false => rw [hp] at e; cases e
    | true =>
      rw [hp] at e
      simp only [cond_true, Option.some.injEq] at e
      subst e
      have h1 : eff nm t h op = some e0 := by rw [eff2_eq]; exact h0
      have h2 := preB_ok h1 hp
      rw [h1]
      exact ⟨h2, hk _⟩
  · cases e
theorem effX_d {nm : Nat} {t : List (Nat × AV)} {h : List (Nat × Ob)} {op : SOp} {r : Rec} (e : (match eff2 nm t h op with
    | some e => bif preB t h op then some (⟨e.val, e.upd, rdOf t op⟩ : Rec) else none
    | none => none) = some r) (k : Rec → Prop) (hk : k r) : onE (eff nm t h op) fun e => k ⟨e.val, e.upd, rdOf t op⟩ := by
  split at e
  · rename_i e0 h0
    cases hp : preB t h op with
    | false => rw [hp] at e; cases e
    | true =>
      rw [hp] at e
      simp only [cond_true, Option.some.injEq] at e
      subst e
      have h1 : eff nm t h op = some e0 := by rw [eff2_eq]; exact h0
      have h2 := preB_ok h1 hp
      rw [h1]
      exact ⟨h2, hk⟩
  · cases e
def plainOp : SOp → Bool
  | .call _ _ => false
  | .isnil _ _ => false
  | _ => true
theorem opX_plain {nm : Nat} {o : SOper} {t : List (Nat × AV)} {h : List (Nat × Ob)} (hp : plainOp o.op = true) : opX run nm o t h = (match eff2 nm t h o.op with
    | some e => bif preB t h o.op then some (⟨e.val, e.upd, rdOf t o.op⟩ : Rec) else none
    | none => none) := by
  obtain ⟨dst, op, guard, af⟩ := o
  cases op <;> first | (simp [plainOp] at hp; done) | rfl
theorem wpOper_plain {nm : Nat} {o : SOper} {t : List (Nat × AV)} {h : List (Nat × Ob)} {Q : List (Nat × AV) → List (Nat × Ob) → Prop} (hp : plainOp o.op = true) :
    wpOper P nm o t h Q = onW nm t h o.op (eff nm t h o.op) fun t h e => Q (putA t o.dst e.val) (e.upd ++ h) := by
  obtain ⟨dst, op, guard, af⟩ := o
  cases op <;> first | (simp [plainOp] at hp; done) | rfl
theorem wpOpD_plain {nm : Nat} {o : SOper} {t : List (Nat × AV)} {h : List (Nat × Ob)} {k : Rec → Prop} (hp : plainOp o.op = true) :
    wpOpD P nm o t h k = onE (eff nm t h o.op) fun e => k ⟨e.val, e.upd, rdOf t o.op⟩ := by
  obtain ⟨dst, op, guard, af⟩ := o
  cases op <;> first | (simp [plainOp] at hp; done) | rfl
theorem opX_wp (hrun : RunOk P run) {nm : Nat} {o : SOper} {t : List (Nat × AV)} {h : List (Nat × Ob)} {r : Rec} (e : opX run nm o t h = some r) (Q : List (Nat × AV) → List (Nat × Ob) → Prop)
    (hQ : Q (putA t o.dst r.val) (r.upd ++ h)) : wpOper P nm o t h Q := by
  cases hp : plainOp o.op with
  | true =>
    rw [opX_plain hp] at e
    rw [wpOper_plain hp]
    exact effX_w e (fun t h e => Q (putA t o.dst e.val) (e.upd ++ h)) fun _ => hQ
  | false =>
    obtain ⟨dst, op, guard, af⟩ := o
    cases op
    case call f args =>
      simp only [opX] at e
      simp only [wpOper]
      split at e
      · rename_i g caps hf
        split at e
        · rename_i xs hx
          rw [hf, hx]
          split at e
          · rename_i hg
            simp only [onF, if_pos hg]
            exact (callX_ok hrun e) h (fun _ _ => rfl) _ hQ
          · rename_i hg
            split at e
            · rename_i hg2
              simp only [onF, if_neg hg, if_pos hg2]
              exact (callX_ok hrun e) h (fun _ _ => rfl) _ hQ
            · cases e
        · cases e
      · cases e
    case isnil neg x =>
      simp only [opX] at e
      simp only [wpOper]
      split at e
      · rename_i b hb
        cases e
        rw [hb]
        exact hQ
      · cases e
    all_goals simp [plainOp] at hp
theorem opX_wpD (hrun : RunOk P run) {nm : Nat} {o : SOper} {t : List (Nat × AV)} {h : List (Nat × Ob)} {r : Rec} (e : opX run nm o t h = some r) (k : Rec → Prop) (hk : k r) : wpOpD P nm o t h k := by
  cases hp : plainOp o.op with
  | true =>
    rw [opX_plain hp] at e
    rw [wpOpD_plain hp]
    exact effX_d e k hk
  | false =>
    obtain ⟨dst, op, guard, af⟩ := o
    cases op
    case call f args =>
      simp only [opX] at e
      simp only [wpOpD]
      split at e
      · rename_i g caps hf
        split at e
        · rename_i xs hx
          rw [hf, hx]
          split at e
          · rename_i hg
            simp only [onF, if_pos hg]
            exact ⟨r, callX_ok hrun e, hk⟩
          · rename_i hg
            split at e
            · rename_i hg2
              simp only [onF, if_neg hg, if_pos hg2]
              exact ⟨r, callX_ok hrun e, hk⟩
            · cases e
        · cases e
      · cases e
    case isnil neg x =>
      simp only [opX] at e
      simp only [wpOpD]
      split at e
      · rename_i b hb
        cases e
        rw [hb]
        exact hk
      · cases e
    all_goals simp [plainOp] at hp
def zOf (t : List (Nat × AV)) (h : List (Nat × Ob)) (op : SOp) : List Nat :=
  (match op with
    | .store _ _ y => nmsD (ev t y)
    | .bslice _ _ _ _ ps => ps.flatMap fun (p : Nat × Operand) => nmsD (ev t p.2)
    | .mput _ _ x => nmsD (ev t x)
    | _ => []).filter fun b => match get h b with
      | some (.row _ _ _) => true
      | _ => false
where
  nmsD : Option AV → List Nat
    | some x => deep x
    | none => []
end
structure Fun where
  sc : SCode
  res : List SRes
  nt : Nat
section
variable {P : Program} {code : FuncId → Option Fun}
theorem Wk.rfl' {s : St} : Wk s s := fun C ρ U a w hr hU => ⟨ρ, U, hr, hU⟩
theorem finG_nil {m : Nat} {vs : List AV} {h : List (Nat × Ob)} {r : AV} {bs : List (List AV)} {es : List Ob} (e : finG m [] vs h = some (r, bs, es)) : es = [] := by
  unfold finG at e
  split at e
  · split at e
    · split at e
      · rename_i es' he
        have h0 : es' = [] := by simpa [obE] using he.symm
        subst h0
        generalize (decide (m ≤ 4) && okS h (Sid (List.range m) ++ exS [] 4) [] (outs _ [])) = q at e
        cases q with
        | false => cases e
        | true => simp only [cond_true, Option.some.injEq, Prod.mk.injEq] at e; exact e.2.2.symm
      · cases e
    · cases e
  · cases e
end
end Go.Eng

namespace Go.Eng
open Go
section
variable {P : Program} {C : Ctx}
end
section
variable {P : Program} {f : FuncId} {res : List SRes} {nt : Nat} {xs : List AV} {bs : List (List AV)} {r : AV} {bs' : List (List AV)} {es : List Ob}
end
end Go.Eng
