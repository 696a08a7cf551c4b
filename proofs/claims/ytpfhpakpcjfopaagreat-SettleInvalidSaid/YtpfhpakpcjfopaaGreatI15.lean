/-
  The reader of a list of numbers: what its functions do.
  No condition.
-/
import Derived.Test.YtpfhpakpcjfopaaGreatI12
import Derived.Test.YtpfhpakpcjfopaaGreatProg
import Derived.WalkKit
import Derived.Laws.LoneSync
import Derived.RegionCalls
import Derived.RegionTactic
import Derived.ChangeAlike
import Derived.Deep.QuietTactic
import Derived.KernelRfl
set_option linter.all false
set_option maxRecDepth 100000
set_option maxHeartbeats 8000000
namespace Go.M
open Go Go.Proofs
theorem au9 (x:Int) {n:Int} (h:0<n):(if x.tmod n<0 then x.tmod n+n else x.tmod n)=x % n:=by
 have h1:x=x.tmod n+n*x.tdiv n:=by have:=Int.tmod_def x n;omega
 have h2:=Int.tmod_lt_of_pos x h
 have h3:=Int.lt_tmod_of_pos x h
 have key:x % n=x.tmod n % n:=by
  conv=>lhs;rw [h1]
  rw [Int.add_mul_emod_self_left]
 rw [key]
 split
 ·rename_i h4
  rw [<-Int.add_emod_right,Int.emod_eq_of_lt (by omega) (by omega)]
 ·rename_i h4
  rw [Int.emod_eq_of_lt (by omega) (by omega)]
theorem ava (b o n0 cap i:Nat) (n:Nat) (ad:Option Addr) (w:World) (hL:w.cell? ⟨b,o,none⟩=some (.slice ad n0 cap)) (hA:w.cell? ⟨b,o+1,none⟩=some (.int .i64 i)) (hi:n0<=i) (hn:0<n):
  Calls Tryz.prog 9 #[.pointer (some ⟨b,o,none⟩),.int .i64 n] w fun e w'=>e= .returned (.int .i64 0)/\w'.heap=w.heap/\w'.os=w.os/\w'.tape=w.tape/\w'.output=w.output:=by
 go_enter Tryz.func9,Tryz.ntmps9
 have hi':((n0:Int)<=(i:Int)):=by omega
 have hn':¬ ((n:Int)<1):=by omega
 have hn2:¬ ((n:Int)=0):=by omega
 go_wp2
 go_quiet (fail)
 go_wp2
 refine bodyPost_ret (results_tmp rfl _ _ _) rfl ?_
 exact ⟨rfl,by simp,rfl,rfl,rfl⟩
theorem avb (b o n0 cap i lb lo:Nat) (n:Nat) (v:Int) (w:World) (hL:w.cell? ⟨b,o,none⟩=some (.slice (some ⟨lb,lo,none⟩) n0 cap)) (hA:w.cell? ⟨b,o+1,none⟩=some (.int .i64 i)) (hz:w.frozen? ⟨b,o+1,none⟩=false) (hE:w.cell? ⟨lb,lo+i,none⟩=some (.int .i64 v)) (hlb:lb≠b)
  (hi:i<n0) (h0:n0<=4000) (hc:n0<=cap) (hn:0<n) (hnm:n<=1000000):
  Calls Tryz.prog 9 #[.pointer (some ⟨b,o,none⟩),.int .i64 n] w fun e w'=>e= .returned (.int .i64 (v % n))/\w'.heap=(w.setCell ⟨b,o+1,none⟩ (.int .i64 ((i:Int)+1))).heap/\w'.os=w.os/\w'.tape=w.tape/\w'.output=w.output:=by
 go_enter Tryz.func9,Tryz.ntmps9
 have hi':¬ ((n0:Int)<=(i:Int)):=by omega
 have hn':¬ ((n:Int)<1):=by omega
 have hn2:¬ ((n:Int)=0):=by omega
 have hw1:IntKind.i64.wrap ((i:Int)+1)=(i:Int)+1:=by rw [IntKind.wrap_i64];omega
 have hw2:IntKind.i64.wrap ((i:Int)+1 - 1)=(i:Int):=by rw [IntKind.wrap_i64];omega
 have hw3:IntKind.i64.wrap (i:Int)=(i:Int):=by rw [IntKind.wrap_i64];omega
 have ht1:=Int.tmod_lt_of_pos v (show (0:Int)<(n:Int) by omega)
 have ht2:=Int.lt_tmod_of_pos v (show (0:Int)<(n:Int) by omega)
 have hw4:IntKind.i64.wrap (v.tmod (n:Int)+(n:Int))=v.tmod (n:Int)+(n:Int):=by rw [IntKind.wrap_i64];omega
 have hfix:=au9 v (show (0:Int)<(n:Int) by omega)
 have hd:∀ q,(w.drewN q).cell? ⟨b,o+1,none⟩=some (.int .i64 i):=fun q=>by simpa using hA
 have hL1:∀ q,((w.drewN q).setCell ⟨b,o+1,none⟩ (.int .i64 ((i:Int)+1))).cell? ⟨b,o,none⟩=some (.slice (some ⟨lb,lo,none⟩) n0 cap):=fun q=>(World.cell?_setCell_other _ _ _ _ (by simp)).trans (by simpa using hL)
 have hA1:∀ q,((w.drewN q).setCell ⟨b,o+1,none⟩ (.int .i64 ((i:Int)+1))).cell? ⟨b,o+1,none⟩=some (.int .i64 ((i:Int)+1)):=fun q=>World.cell?_setCell_same _ _ _ (hd q)
 have hE1:∀ q,((w.drewN q).setCell ⟨b,o+1,none⟩ (.int .i64 ((i:Int)+1))).cell? ⟨lb,lo+i,none⟩=some (.int .i64 v):=fun q=>(World.cell?_setCell_other _ _ _ _ (by simp [hlb])).trans (by simpa using hE)
 have hib:(i:Int)<(n0:Int):=by omega
 have hi0:¬ ((i:Int)<0):=by omega
 have hin:((i:Int)).toNat=i:=by simp
 by_cases ht:v.tmod (n:Int)<0
 ·rw [if_pos ht] at hfix
  go_wp2
  go_quiet (fail)
  go_wp2
  go_quiet (fail)
  go_wp2
  refine bodyPost_ret (results_tmp rfl _ _ _) rfl ?_
  exact ⟨by rw [<-hfix];rfl,by simp [World.setCell],rfl,rfl,rfl⟩
 ·rw [if_neg ht] at hfix
  go_wp2
  go_quiet (fail)
  go_wp2
  go_quiet (fail)
  go_wp2
  refine bodyPost_ret (results_tmp rfl _ _ _) rfl ?_
  exact ⟨by rw [<-hfix];rfl,by simp [World.setCell],rfl,rfl,rfl⟩
theorem avc (ad:Option Addr) (len cap:Nat) (w:World) (h:len<=4000):
  Calls Tryz.prog 5 #[.slice ad len cap] w fun e w'=>e= .returned (.pointer (some ⟨w.heap.size,0,none⟩))/\∃ ety,w'=w.alloc (.cells #[.slice ad len cap,.int .i64 0] ety):=by
 go_enter Tryz.func5,Tryz.ntmps5
 have h1:¬ (4000<(len:Int)):=by omega
 go_wp2
 refine bodyPost_ret (results_tmp rfl _ _ _) rfl ?_
 exact ⟨rfl,_,rfl⟩
theorem avd (ad:Option Addr) (len cap:Nat) (w:World) (h:4000<len) (hc:len<=cap):
  Calls Tryz.prog 5 #[.slice ad len cap] w fun e w'=>e= .returned (.pointer (some ⟨w.heap.size,0,none⟩))/\∃ ety,w'=w.alloc (.cells #[.slice ad 4000 cap,.int .i64 0] ety):=by
 go_enter Tryz.func5,Tryz.ntmps5
 have h1:(4000:Int)<(len:Int):=by omega
 have h2:4000<=cap:=by omega
 go_wp2
 refine bodyPost_ret (results_tmp rfl _ _ _) rfl ?_
 exact ⟨rfl,_,rfl⟩
end Go.M
