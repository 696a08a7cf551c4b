/-
  The engine, part 3n: every operation that the engine takes is sound.
  No condition: one theorem.
-/
import Derived.Test.YteonhcjaekodkaaEng3m
set_option linter.all false
namespace Go.Eng
open Go
section
variable {P : Program} {C : Ctx} {ρ : Nat → Loc} {U : Nat → Prop} {h : List (Nat × Ob)} {w : World} {nm : Nat} {t : List (Nat × AV)} {a : Act} {o : Oper} {e : E}

theorem eff_sound {so : SOp} (hs : strip P o = some so) (hr : HR C ρ U h w) (ht : Tm C ρ U w t a) (hn : ¬ U nm) (he : eff nm t h so = some e) (hp : e.pre) :
    Run C ρ U h w nm ((execOp a.eval o).run P w) e := by
  unfold strip at hs
  split at hs
  · rename_i x hop; cases hs; exact s_mov hr ht (.inl hop) he
  · rename_i x hop; cases hs; exact s_mov hr ht (.inr hop) he
  · rename_i c x y hop; cases hs; exact s_pick hr ht hop he
  · rename_i el hop
    split at hs
    · rename_i zs hz; cases hs; exact s_alloc hr hn hz hop he
    · cases hs
  · rename_i el x hop; cases hs; exact s_box hr ht hn hop he
  · rename_i ty parts hop
    split at hs
    · rename_i fs hu
      split at hs
      · rename_i zs hz
        split at hs
        · rename_i ps hps
          split at hs
          · rename_i hall
            cases hs
            exact s_build hr ht hu hz hps (fun f hf => List.all_eq_true.1 hall f hf) hop he
          · cases hs
        · cases hs
      · cases hs
    · rename_i n el hu
      split at hs
      · rename_i zs hz
        split at hs
        · rename_i sz hsz
          cases hs
          exact s_buildA hr ht hu hz hsz hop he
        · cases hs
      · cases hs
    · cases hs
  · rename_i ty len parts hop
    split at hs
    · rename_i el hu
      split at hs
      · rename_i zs hz
        split at hs
        · rename_i sz hsz
          split at hs
          · rename_i hc
            cases hs
            exact s_bslice hr ht hn hu hz hsz hc.1 hc.2.1 hc.2.2.1 hc.2.2.2 hop he
          · cases hs
        · cases hs
      · cases hs
    · cases hs
  · rename_i ty x hop
    split at hs
    · rename_i ag ha
      split at hs
      · rename_i sz hsz; cases hs; exact s_load hr ht ha hsz hop he hp
      · cases hs
    · cases hs
  · rename_i ty x y hop
    split at hs
    · rename_i sz hsz; cases hs; exact s_store hr ht hsz hop he hp
    · cases hs
  · rename_i x hop; cases hs; exact s_nilc hr ht hop he
  · rename_i op ty x y ty' hop
    split at hs
    · rename_i fs hu
      split at hs
      · rename_i ks hk
        split at hs
        · rename_i hc
          split at hs
          · cases hs; exact s_eqs (neg := false) hr ht hu hk hc.1 hc.2 hop he
          · cases hs; exact s_eqs (neg := true) hr ht hu hk hc.1 hc.2 hop he
          · cases hs
        · cases hs
      · cases hs
    · cases hs; exact s_bin hr ht hop he hp
    · cases hs; exact s_bin hr ht hop he hp
    · rename_i hu
      split at hs
      · cases hs; exact s_eqb (neg := false) hr ht hu hop he
      · cases hs; exact s_eqb (neg := true) hr ht hu hop he
      · cases hs
    · split at hs
      · cases hs; simp [eff] at he
      · cases hs; simp [eff] at he
      · cases hs
    · cases hs
  · rename_i op ty x hop; cases hs; exact s_un hr ht hop he
  · rename_i src dst x hop
    split at hs
    · rename_i k0 k h1 h2; cases hs; exact s_conv hr ht h1 h2 hop he
    · split at hs
      · cases hs; simp [eff] at he
      · cases hs
    · rename_i el h1 h2
      split at hs
      · rename_i h3; cases hs; exact s_b2s hr ht h1 h3 h2 hop he hp
      · cases hs
    · cases hs
  · rename_i f first caps hop
    split at hs
    · rename_i hf; cases hs; exact s_mkfn hr ht hf hop he
    · cases hs
  · rename_i ty hop; cases hs; exact s_mkmap hr hn hop he
  · rename_i ty m k hop
    split at hs
    · rename_i kt et hu
      split at hs
      · rename_i kk z hk hz
        cases hs
        refine s_look hr ht hu hk ?_ hop he
        unfold zeroVal at hz
        split at hz
        · rename_i i hi; exact ⟨i, hi, hz⟩
        · cases hz
      · cases hs
    · cases hs
  · rename_i ty m k x hop
    split at hs
    · rename_i kt et hu
      split at hs
      · rename_i kk hk; cases hs; exact s_mput hr ht hu hk hop he
      · cases hs
    · cases hs
  · rename_i ty l c hop
    split at hs
    · rename_i el hu
      split at hs
      · rename_i zs sz by_ hz hsz hb
        split at hs
        · rename_i hc; cases hs; exact s_mkslice hr ht hn ⟨hu, hz, hsz, hb, hc.1, hc.2.1⟩ hc.2.2 hop he hp
        · cases hs
      · cases hs
    · cases hs
  · rename_i ty x lo hi mx hop
    split at hs
    · rename_i el hu
      split at hs
      · rename_i sz hsz; cases hs; exact s_slice hr ht hu hsz hop he hp
      · cases hs
    · rename_i hu
      split at hs
      · cases hs; exact s_sslice hr ht hu hop he hp
      · cases hs
    · cases hs
  · rename_i ty x f hop
    split at hs
    · rename_i fs hu
      split at hs
      · rename_i fd hf
        split at hs
        · rename_i sz hsz
          split at hs
          · cases hs
          · rename_i hne; cases hs; exact s_faddr hr ht hu hf hsz hne hop he hp
        · cases hs
      · cases hs
    · cases hs
  · rename_i ty x f hop
    split at hs
    · rename_i fs hu
      split at hs
      · rename_i fd hf
        split at hs
        · rename_i sz ag hsz ha; cases hs; exact s_fld hr ht hu hf hsz ha hop he
        · cases hs
      · cases hs
    · cases hs
  · rename_i ty x i hop
    split at hs
    · rename_i el hu
      split at hs
      · rename_i sz hsz; cases hs; exact s_iaddr hr ht hu hsz hop he hp
      · cases hs
    · rename_i n el hu
      split at hs
      · cases hs; simp [eff] at he
      · cases hs
    · cases hs
  · rename_i ty x i hop
    split at hs
    · rename_i n el hu
      split at hs
      · rename_i sz ag hsz ha; cases hs; exact s_idx hr ht hu hsz ha hop he hp
      · cases hs
    · rename_i hu; cases hs; exact s_idxs hr ht hu hop he hp
    · cases hs
  · rename_i x i hop; cases hs; exact s_ext hr ht hop he
  · cases hs; simp [eff] at he
  · cases hs; simp [eff] at he
  · rename_i c hop
    split at hs
    · cases hs; simp [eff] at he
    · rename_i hc
      split at hs
      · rename_i ty x h2 h3
        split at hs
        · rename_i el hu; cases hs; exact s_len hr ht hu hc h2 h3 hop he
        · rename_i hu; cases hs; exact s_slen hr ht hu hc h2 h3 hop he
        · cases hs
      · cases hs
    · rename_i hc
      split at hs
      · rename_i ty x h2 h3
        split at hs
        · rename_i el hu; cases hs; exact s_cap hr ht hu hc h2 h3 hop he
        · cases hs
      · cases hs
    · rename_i hc
      split at hs
      · rename_i ty ty' s x h2 h3
        have h2' : c.argTypes = #[ty, ty'] := Array.toList_inj.1 (by simpa using h2)
        have h3' : c.args = #[s, x] := Array.toList_inj.1 (by simpa using h3)
        split at hs
        · rename_i hty
          subst hty
          split at hs
          · rename_i el hu
            split at hs
            · rename_i zs sz by_ hz hsz hb
              split at hs
              · rename_i hcc; cases hs; exact s_app hr ht hn ⟨hu, hz, hsz, hb, hcc.1, hcc.2⟩ hc h2' h3' hop he hp
              · cases hs
            · cases hs
          · cases hs
        · split at hs
          · rename_i el q hu hti
            split at hs
            · rename_i zs sz by_ hz hsz hb
              split at hs
              · rename_i hcc; cases hs; exact s_appz hr ht hn ⟨hu, hz, hsz, hb, hcc.1, hcc.2.1⟩ hcc.2.2 hti hc h2' h3' hop he hp
              · cases hs
            · cases hs
          · cases hs
      · cases hs
    · rename_i hc
      split at hs
      · rename_i ty x h2 h3
        split at hs
        · rename_i el hu
          split at hs
          · rename_i zs sz hz hsz
            split at hs
            · rename_i hcc; cases hs; exact s_clr hr ht hu hz hsz hcc.1 hcc.2.2 hc h2 h3 hop he hp
            · cases hs
          · cases hs
        · cases hs
      · cases hs
    · rename_i hc; cases hs; exact s_minmax (mx := true) hr ht hc hop he
    · rename_i hc; cases hs; exact s_minmax (mx := false) hr ht hc hop he
    · cases hs
  · cases hs

end
end Go.Eng
