/-
  Functions that SectionCarries reaches, as the engine takes them, printed by a program of this work; each is shown to be the translation's own.
  No condition.
-/
import Derived.Test.YtjkgjdgmghnknaaGreatEngD
import Derived.Test.YtjkgjdgmghnknaaGreatProg
set_option linter.all false
namespace Go.Eng
open Go Go.Proofs

def s392 : SCode := (.seq (.region [⟨(some 4), .mov (.const (.int .i64 0)), none, []⟩] false) (.seq (.seq (.region [⟨(some 6), .mov (.tmp 0), none, []⟩,
  ⟨(some 7), .len (.tmp 6), none, []⟩,
  ⟨(some 8), .mov (.const (.int .i64 0)), none, []⟩] false) (.block 0 (.loop (.seq (.region [⟨(some 9), .bin .lss (.tmp 8) (.tmp 7), none, []⟩] false) (.seq (.cond (.tmp 9) .skip (.exit 0)) (.seq (.block 1 (.seq (.region [⟨(some 10), .mov (.tmp 8), none, []⟩,
  ⟨(some 5), .mov (.tmp 10), none, []⟩] false) (.seq (.region [⟨(some 11), .mov (.tmp 1), none, []⟩,
  ⟨(some 12), .mov (.tmp 0), none, []⟩,
  ⟨(some 13), .mov (.tmp 5), none, []⟩,
  ⟨(some 14), .iaddr 1 (.tmp 12) (.tmp 13), none, []⟩,
  ⟨(some 15), .load false 1 (.tmp 14), none, []⟩,
  ⟨(some 16), .eqb false (.tmp 11) (.tmp 15), none, []⟩] false) (.cond (.tmp 16) (.seq (.region [⟨(some 17), .mov (.tmp 5), none, []⟩,
  ⟨(some 4), .mov (.tmp 17), none, []⟩] false) .ret) .skip)))) (.region [⟨(some 18), .bin .add (.tmp 8) (.const (.int .i64 1)), none, []⟩,
  ⟨(some 8), .mov (.tmp 18), none, []⟩] false))))))) (.seq (.region [⟨(some 4), .mov (.const (.int .i64 (-1))), none, []⟩] false) .ret)))
theorem ok392 : FnOk Tryz.prog 392 s392 [.tmp 4] 19 := ⟨⟨Tryz.f392, Tryz.f392.body.getD .skip, by kernel_rfl, by kernel_rfl, by kernel_rfl, by kernel_rfl, by kernel_rfl, by decide, by kernel_rfl⟩, by kernel_rfl, by kernel_rfl⟩
def s425 : SCode := (.seq (.region [⟨(some 4), .mov (.const (.int .i64 0)), none, []⟩] false) (.seq (.seq (.region [⟨(some 6), .mov (.tmp 0), none, []⟩,
  ⟨(some 7), .len (.tmp 6), none, []⟩,
  ⟨(some 8), .mov (.const (.int .i64 0)), none, []⟩] false) (.block 0 (.loop (.seq (.region [⟨(some 9), .bin .lss (.tmp 8) (.tmp 7), none, []⟩] false) (.seq (.cond (.tmp 9) .skip (.exit 0)) (.seq (.block 1 (.seq (.region [⟨(some 10), .mov (.tmp 8), none, []⟩,
  ⟨(some 5), .mov (.tmp 10), none, []⟩] false) (.seq (.region [⟨(some 11), .mov (.tmp 1), none, []⟩,
  ⟨(some 12), .mov (.tmp 0), none, []⟩,
  ⟨(some 13), .mov (.tmp 5), none, []⟩,
  ⟨(some 14), .iaddr 2 (.tmp 12) (.tmp 13), none, []⟩,
  ⟨(some 15), .load true 2 (.tmp 14), none, []⟩,
  ⟨(some 16), .call (.tmp 11) [.tmp 15], none, []⟩] false) (.cond (.tmp 16) (.seq (.region [⟨(some 17), .mov (.tmp 5), none, []⟩,
  ⟨(some 4), .mov (.tmp 17), none, []⟩] false) .ret) .skip)))) (.region [⟨(some 18), .bin .add (.tmp 8) (.const (.int .i64 1)), none, []⟩,
  ⟨(some 8), .mov (.tmp 18), none, []⟩] false))))))) (.seq (.region [⟨(some 4), .mov (.const (.int .i64 (-1))), none, []⟩] false) .ret)))
theorem ok425 : FnOk Tryz.prog 425 s425 [.tmp 4] 19 := ⟨⟨Tryz.f425, Tryz.f425.body.getD .skip, by kernel_rfl, by kernel_rfl, by kernel_rfl, by kernel_rfl, by kernel_rfl, by decide, by kernel_rfl⟩, by kernel_rfl, by kernel_rfl⟩
end Go.Eng
