/-
  Walks and plain lemmas for SectionCarries: what the functions named below compute, over the abstract states of the engine.
  No condition beyond those that each theorem states.
-/
import Derived.Test.YtjkgjdgmghnknaaGreatMq2
import Derived.Test.YtjkgjdgmghnknaaGreatAt1
set_option linter.all false
set_option linter.unusedSimpArgs false
namespace Go.Eng
open Go Go.Proofs

def okX : AV → Bool
  | .ptr k _ => Nat.blt k 4
  | x => x.pure
theorem FnG.of_Fn {P : Program} {f : FuncId} {xs : List AV} {bs : List (List AV)} {r : AV} {bs' : List (List AV)} {es : List Ob} (hF : Fn P f xs bs r bs' es) (hx : xs.all okX = true) (hb : bs.all pureL = true) (h4 : bs.length ≤ 4) : FnG P f xs bs [] r bs' es := by
  refine ⟨hF.1, fun C ρ U w vals hr hU hv => ?_⟩
  have e : outs bs [] = boxesFrom 0 bs := by simp [outs, obsFrom]
  rw [e] at hr
  have hbox : ∀ b o, get (boxesFrom 0 bs) b = some o → b < 4 ∧ ∃ cs, o = .box cs ∧ pureL cs = true := by
    have key : ∀ (bs : List (List AV)) (k b : Nat) (o : Ob), bs.all pureL = true → get (boxesFrom k bs) b = some o → b < k + bs.length ∧ ∃ cs, o = .box cs ∧ pureL cs = true := by
      intro bs
      induction bs with
      | nil => intro k b o _ h; simp [boxesFrom, obsFrom] at h
      | cons c bs ih =>
        intro k b o hp h
        simp only [List.all_cons, Bool.and_eq_true] at hp
        simp only [boxesFrom, List.map_cons, obsFrom, get] at h
        split at h
        · rename_i e
          cases h
          exact ⟨by simp only [List.length_cons]; omega, c, rfl, hp.1⟩
        · obtain ⟨h1, h2⟩ := ih (k + 1) b o hp.2 h
          exact ⟨by simp only [List.length_cons]; omega, h2⟩
    intro b o h
    obtain ⟨h1, h2⟩ := key bs 0 b o hb h
    exact ⟨by omega, h2⟩
  have hr' : HR C ρ (fun b => U b ∧ b < 4) (boxesFrom 0 bs) w := by
    refine ⟨fun b o hbo => ?_, hr.hd, hr.inj, hr.os, hr.tape, hr.output, hr.size, hr.old, hr.okl, hr.ownl, fun b l hl => ?_⟩
    · obtain ⟨h1, cs, rfl, hp⟩ := hbox b o hbo
      obtain ⟨h2, g, o, n, e, cells, g1, g2, g3, g4, g5⟩ := hr.hp b _ hbo
      refine ⟨⟨h2, h1⟩, g, o, n, e, cells, g1, g2, g3, g4, fun j c hj => ?_⟩
      obtain ⟨u, hu1, hu2⟩ := g5 j c hj
      exact ⟨u, hu1, .p (VP.of_pure_aux hu2 (pureL_get cs hp j c hj))⟩
    · obtain ⟨h1, h2, h3⟩ := hr.fix b l hl
      exact ⟨h1, ⟨h2, C.locb b l hl⟩, h3⟩
  refine hF.2 C ρ _ w vals hr' (fun b hb => hb.2) ⟨hv.1, fun i c u hi hu => ?_⟩
  have h1 := hv.2 i c u hi hu
  have h2 : okX c = true := List.all_eq_true.1 hx c (List.mem_of_getElem? hi)
  cases c with
  | ptr k j =>
    simp only [okX] at h2
    obtain ⟨hu1, a, rfl, ha⟩ := h1.ptr_inv
    exact .ptr a ⟨hu1, blt_lt h2⟩ ha
  | _ => exact .p (VP.of_pure_aux h1 h2)
theorem StmOk.of {P : Program} {st : Stm} {sc : SCode} (h : st = comp sc) (hs : allStat sc = true) : StmOk P st sc := h ▸ comp_ok sc hs
end Go.Eng
