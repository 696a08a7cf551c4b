/-
  The engine, part 16: the words by which simp walks.
  No condition: attributes.
-/
import Derived.Test.YteonhcjaekodkaaEng15
set_option linter.all false
namespace Go.Eng
open Go
theorem one_v (x : Value) : (AV.v x).one = x.oneCell' := rfl
theorem one_agg (cs : List AV) : (AV.agg cs).one = false := rfl
theorem one_tup (cs : List AV) : (AV.tup cs).one = false := rfl
theorem one_sl (sz : Nat) (xs : List (List AV)) : (AV.sl sz xs).one = true := rfl
theorem one_own (b sz off len : Nat) : (AV.own b sz off len).one = true := rfl
theorem one_ptr (b j : Nat) : (AV.ptr b j).one = true := rfl
theorem one_rp (b sz k j : Nat) : (AV.rp b sz k j).one = true := rfl
theorem one_pel (cs : List AV) (j : Nat) : (AV.pel cs j).one = true := rfl
theorem one_mp (b : Nat) : (AV.mp b).one = true := rfl
theorem one_fn (f : FuncId) (cs : List AV) : (AV.fn f cs).one = true := rfl
attribute [go_sem] one_v one_agg one_tup one_sl one_own one_ptr one_rp one_pel one_mp one_fn
attribute [go_sem] go_nil go_seq go_skip go_exit go_ret go_blk go_lp goX_blk
attribute [go_sem] goX_ops goX_code goX_lp go_block go_region go_cond goIf_true goIf_false
attribute [go_sem] go_ops_nil go_mov go_pick go_alloc go_box go_build go_bslice go_load
attribute [go_sem] go_store go_nilc go_bin go_eqs go_un go_conv go_s2b go_b2s
attribute [go_sem] go_mkfn go_mkmap go_look go_mput go_mkslice go_slice go_sslice go_faddr
attribute [go_sem] go_fld go_iaddr go_iaddrA go_idx go_idxs go_len go_cap go_app
attribute [go_sem] go_clr go_ext go_minmax go_isnil goNil_some goNil_any go_appz go_eqb
attribute [go_sem] go_slen go_call go_guard goE_some goC_fn goG_undef goG_tt goG_tf
attribute [go_sem] goG_ft goG_ff goD_mov goD_pick goD_alloc goD_box goD_build goD_bslice
attribute [go_sem] goD_load goD_store goD_nilc goD_bin goD_eqs goD_un goD_conv goD_s2b
attribute [go_sem] goD_b2s goD_mkfn goD_mkmap goD_look goD_mput goD_mkslice goD_slice goD_sslice
attribute [go_sem] goD_faddr goD_fld goD_iaddr goD_iaddrA goD_idx goD_idxs goD_len goD_cap
attribute [go_sem] goD_app goD_clr goD_ext goD_minmax goD_appz goD_eqb goD_slen goX_drw
attribute [go_sem] go_region_draw go_drw_nil goED_some goD_call goCD_fn goD_isnil goNilD_some goD_guard
attribute [go_sem] goGD_undef goGD_tt goGD_tf goGD_ft goGD_ff
attribute [go_sem] eff ev evL get E.ok putA cellsA oneL
attribute [go_sem] Value.oneCell' sbin sbinP fillA partsA partsR fillR
attribute [go_sem] splice eqCells pureL AV.pure contentsN lookM putM bound
attribute [go_sem] bytesOf bytesOfL nilK rdOf nmsO AV.nms tFrom boxesFrom
attribute [go_sem] obsFrom boxesAt retV retOne sh shL finQ rvL
attribute [go_sem] outs keep1 argsR boxesR pureLL rvT rvH rvN
attribute [go_sem] rvO expA expL na naL rowOk deep deepL
attribute [go_sem] get_nil
attribute [go_sem] true_and and_true List.append_nil List.nil_append List.cons_append List.length_cons List.length_nil List.map_cons
attribute [go_sem] List.map_nil Bool.and_true Bool.and_self Bool.not_true Bool.not_false Bool.false_eq_true Bool.true_and List.getElem?_cons_zero
attribute [go_sem] List.getElem?_cons_succ Nat.succ_eq_add_one Nat.zero_add Nat.add_zero List.take_zero List.drop_zero List.take_succ_cons List.drop_succ_cons
attribute [go_sem] List.take_nil List.drop_nil
end Go.Eng
