/-
  The atomic cell: what its functions do.
  No condition: definitions and lemmas.
-/
import Derived.Test.YtgnhijkjlebcmaaGreatQf1M
import Derived.Test.YtgnhijkjlebcmaaGreatQf2M
import Derived.Test.YtgnhijkjlebcmaaGreatQf3M
import Derived.Test.YtgnhijkjlebcmaaGreatQf4M
import Derived.Test.YtgnhijkjlebcmaaGreatQf5M
import Derived.Test.YtgnhijkjlebcmaaGreatQf6M
import Derived.Test.YtgnhijkjlebcmaaGreatQf7M
import Derived.Test.YtgnhijkjlebcmaaGreatQf8M
import Derived.Test.YtgnhijkjlebcmaaGreatQIM
import Derived.Test.YtgnhijkjlebcmaaGreatMemFM
import Derived.Test.YtgnhijkjlebcmaaGreatProg
import Derived.WalkKit
import Derived.Laws.LoneSync
import Derived.RegionCalls
set_option linter.all false
set_option maxRecDepth 100000
set_option maxHeartbeats 4000000
namespace Go.M
open Go Go.Proofs
noncomputable section
def fIns413 : FC := fcIns 3 24 (exF (fun _ => fcN) fun413)
theorem fIns413_ok [Ctxt] : FcOk Tryz.prog 413 fIns413 := fcIns_ok (insOk413 ok413.enters) (exF_ok (fun _ => fcN_ok) (fun cx nt hcx => draw_ok (hcx ▸ fun _ => fcN_ok)) ok413)
def fIns417 : FC := fcIns 8 72 (exF (fun _ => fcN) fun417)
theorem fIns417_ok [Ctxt] : FcOk Tryz.prog 417 fIns417 := fcIns_ok (insOk417 ok417.enters) (exF_ok (fun _ => fcN_ok) (fun cx nt hcx => draw_ok (hcx ▸ fun _ => fcN_ok)) ok417)
def hkN (f : Nat) : FC := cnd (Nat.beq f 413) fIns413 (cnd (Nat.beq f 417) fIns417 fcN)
theorem hk_ok [Ctxt] : CallsOk Tryz.prog hkN := fun g => by
  show FcOk Tryz.prog g (cnd (Nat.beq g 413) fIns413 (cnd (Nat.beq g 417) fIns417 fcN))
  cases h1 : Nat.beq g 413 with
  | true => rw [beqT h1]; exact fIns413_ok
  | false => cases h2 : Nat.beq g 417 with
    | true => rw [beqT h2]; exact fIns417_ok
    | false => exact fcN_ok
end
end Go.M
