/-
  SettleInvalid gives back true for every list and every token.
  The list's numbers come in as what the oracle says of each draw.
-/
import Derived.Test.YtpfhpakpcjfopaaGreatI20
import Derived.Test.YtpfhpakpcjfopaaGreatI21
import Derived.Test.YtpfhpakpcjfopaaGreatI22
import Derived.Test.YtpfhpakpcjfopaaGreatI23
import Derived.Test.YtpfhpakpcjfopaaGreatI24
import Derived.Test.YtpfhpakpcjfopaaGreatI25
import Derived.Test.YtpfhpakpcjfopaaGreatI26
import Derived.Test.YtpfhpakpcjfopaaGreatI27
import Derived.Test.YtpfhpakpcjfopaaGreatI28
import Derived.Test.YtpfhpakpcjfopaaGreatI29
import Derived.Test.YtpfhpakpcjfopaaGreatI30
import Derived.Test.YtpfhpakpcjfopaaGreatI31
import Derived.Test.YtpfhpakpcjfopaaGreatI32
import Derived.Test.YtpfhpakpcjfopaaGreatI33
import Derived.Test.YtpfhpakpcjfopaaGreatI34
import Derived.KernelRfl
set_option linter.all false
set_option maxRecDepth 100000
set_option maxHeartbeats 8000000
namespace Go.M
open Go Go.Proofs
theorem bD [aB] {i n m nn vn:Nat} (hi:i<=aA) (d:aS fK aA i n=(m:Int)) (h1:nn=32*n) (h2:vn=32*m):DF (SI (i:Nat)) nn (z vn) (aD aA i:Nat):=jH dS hi d h1 h2
theorem tail [aB] {nt:Nat} {cc:Code} (hm:Tryz.prog.follows .mixedOrders=true) (hG:bV.G.length<=64) (hp:Pt Tryz.prog bV nt cc pT) {S:bK} {h:X} {hn:Nat} (p:Nat) (q1:aD aA p<=aA)
  (hP:kG TK qf\/∃ i1 i2 i3 i4,kG TK (yx i1 i2 i3 i4)) (D1:DF (SI (p:Nat)) hn h (aD aA p:Nat))
  (a0:WA S h (z 0) hn (p:Nat)) (b0:WB S h (z 0) hn (p:Nat)) (a1:WA S h (z 32) hn (p:Nat)) (b1:WB S h (z 32) hn (p:Nat)) (a2:WA S h (z 64) hn (p:Nat)) (b2:WB S h (z 64) hn (p:Nat)):TE Tryz.prog jI nt bV.res cc S:=by
 obtain ⟨m1,d1,e1⟩:=kF fK aA (aD aA p) 7 (by omega)
 generalize aD aA p=p1 at*
 have q2:=Az q1
 have c1:m1=0\/m1=1\/m1=2\/m1=3\/m1=4\/m1=5\/m1=6:=by omega
 obtain ⟨m2,d2,e2⟩:=kF fK aA (aD aA p1) 3 (by omega)
 have c2:m2=0\/m2=1\/m2=2:=by omega
 rcases c1 with rfl|rfl|rfl|rfl|rfl|rfl|rfl
 ·have D2:=bD (nn:=224) (vn:=0) q1 d1 rfl rfl
  rcases c2 with rfl|rfl|rfl
  ·exact fin hm hG hp (kK (a0 _ _ (aD aA (aD aA p1):Nat) 0 0 0 0)).1 ⟨bD (vn:=0) q2 d2 rfl rfl,trivial,D2,trivial,D1,trivial,trivial⟩
  ·exact fin hm hG hp (kK (a1 _ _ (aD aA (aD aA p1):Nat) 0 0 0 0)).1 ⟨bD (vn:=32) q2 d2 rfl rfl,trivial,D2,trivial,D1,trivial,trivial⟩
  ·exact fin hm hG hp (kK (a2 _ _ (aD aA (aD aA p1):Nat) 0 0 0 0)).1 ⟨bD (vn:=64) q2 d2 rfl rfl,trivial,D2,trivial,D1,trivial,trivial⟩
 ·have D2:=bD (nn:=224) (vn:=32) q1 d1 rfl rfl
  rcases c2 with rfl|rfl|rfl
  ·exact fin hm hG hp (kK (a0 _ _ (aD aA (aD aA p1):Nat) 0 0 0 0)).2.1 ⟨bD (vn:=0) q2 d2 rfl rfl,trivial,D2,trivial,D1,trivial,trivial⟩
  ·exact fin hm hG hp (kK (a1 _ _ (aD aA (aD aA p1):Nat) 0 0 0 0)).2.1 ⟨bD (vn:=32) q2 d2 rfl rfl,trivial,D2,trivial,D1,trivial,trivial⟩
  ·exact fin hm hG hp (kK (a2 _ _ (aD aA (aD aA p1):Nat) 0 0 0 0)).2.1 ⟨bD (vn:=64) q2 d2 rfl rfl,trivial,D2,trivial,D1,trivial,trivial⟩
 ·have D2:=bD (nn:=224) (vn:=64) q1 d1 rfl rfl
  rcases c2 with rfl|rfl|rfl
  ·exact fin hm hG hp (kK (a0 _ _ (aD aA (aD aA p1):Nat) 0 0 0 0)).2.2.1 ⟨bD (vn:=0) q2 d2 rfl rfl,trivial,D2,trivial,D1,trivial,trivial⟩
  ·exact fin hm hG hp (kK (a1 _ _ (aD aA (aD aA p1):Nat) 0 0 0 0)).2.2.1 ⟨bD (vn:=32) q2 d2 rfl rfl,trivial,D2,trivial,D1,trivial,trivial⟩
  ·exact fin hm hG hp (kK (a2 _ _ (aD aA (aD aA p1):Nat) 0 0 0 0)).2.2.1 ⟨bD (vn:=64) q2 d2 rfl rfl,trivial,D2,trivial,D1,trivial,trivial⟩
 ·have D2:=bD (nn:=224) (vn:=96) q1 d1 rfl rfl
  obtain ⟨m3,d3,e3⟩:=kF fK aA (aD aA p1) 5 (by omega)
  have q3:=Az q2
  obtain ⟨m4,d4,e4⟩:=kF fK aA (aD aA (aD aA p1)) 3 (by omega)
  have c4:m4=0\/m4=1\/m4=2:=by omega
  have c3:m3=0\/m3=1\/m3=2\/m3=3\/m3=4:=by omega
  have D3:=bD (nn:=160) (vn:=32*m3) q2 d3 rfl rfl
  rcases c4 with rfl|rfl|rfl
  ·have D4:=bD (nn:=96) (vn:=0) q3 d4 rfl rfl
   have u:=AQ (b0 (p1:Nat) (aD aA p1:Nat) (aD aA (aD aA p1):Nat) (aD aA (aD aA (aD aA p1)):Nat))
   rcases c3 with rfl|rfl|rfl|rfl|rfl
   ·exact fin hm hG hp u.1 ⟨D4,trivial,D3,trivial,D2,trivial,D1,trivial,trivial⟩
   ·exact fin hm hG hp u.2.1 ⟨D4,trivial,D3,trivial,D2,trivial,D1,trivial,trivial⟩
   ·exact fin hm hG hp u.2.2.1 ⟨D4,trivial,D3,trivial,D2,trivial,D1,trivial,trivial⟩
   ·exact fin hm hG hp u.2.2.2.1 ⟨D4,trivial,D3,trivial,D2,trivial,D1,trivial,trivial⟩
   ·exact fin hm hG hp u.2.2.2.2.1 ⟨D4,trivial,D3,trivial,D2,trivial,D1,trivial,trivial⟩
  ·have D4:=bD (nn:=96) (vn:=32) q3 d4 rfl rfl
   have u:=AQ (b1 (p1:Nat) (aD aA p1:Nat) (aD aA (aD aA p1):Nat) (aD aA (aD aA (aD aA p1)):Nat))
   rcases c3 with rfl|rfl|rfl|rfl|rfl
   ·exact fin hm hG hp u.1 ⟨D4,trivial,D3,trivial,D2,trivial,D1,trivial,trivial⟩
   ·exact fin hm hG hp u.2.1 ⟨D4,trivial,D3,trivial,D2,trivial,D1,trivial,trivial⟩
   ·exact fin hm hG hp u.2.2.1 ⟨D4,trivial,D3,trivial,D2,trivial,D1,trivial,trivial⟩
   ·exact fin hm hG hp u.2.2.2.1 ⟨D4,trivial,D3,trivial,D2,trivial,D1,trivial,trivial⟩
   ·exact fin hm hG hp u.2.2.2.2.1 ⟨D4,trivial,D3,trivial,D2,trivial,D1,trivial,trivial⟩
  ·have D4:=bD (nn:=96) (vn:=64) q3 d4 rfl rfl
   have u:=AQ (b2 (p1:Nat) (aD aA p1:Nat) (aD aA (aD aA p1):Nat) (aD aA (aD aA (aD aA p1)):Nat))
   rcases c3 with rfl|rfl|rfl|rfl|rfl
   ·exact fin hm hG hp u.1 ⟨D4,trivial,D3,trivial,D2,trivial,D1,trivial,trivial⟩
   ·exact fin hm hG hp u.2.1 ⟨D4,trivial,D3,trivial,D2,trivial,D1,trivial,trivial⟩
   ·exact fin hm hG hp u.2.2.1 ⟨D4,trivial,D3,trivial,D2,trivial,D1,trivial,trivial⟩
   ·exact fin hm hG hp u.2.2.2.1 ⟨D4,trivial,D3,trivial,D2,trivial,D1,trivial,trivial⟩
   ·exact fin hm hG hp u.2.2.2.2.1 ⟨D4,trivial,D3,trivial,D2,trivial,D1,trivial,trivial⟩
 ·have D2:=bD (nn:=224) (vn:=128) q1 d1 rfl rfl
  rcases c2 with rfl|rfl|rfl
  ·exact fin hm hG hp (kK (a0 _ _ (aD aA (aD aA p1):Nat) 0 0 0 0)).2.2.2.1 ⟨bD (vn:=0) q2 d2 rfl rfl,trivial,D2,trivial,D1,trivial,trivial⟩
  ·exact fin hm hG hp (kK (a1 _ _ (aD aA (aD aA p1):Nat) 0 0 0 0)).2.2.2.1 ⟨bD (vn:=32) q2 d2 rfl rfl,trivial,D2,trivial,D1,trivial,trivial⟩
  ·exact fin hm hG hp (kK (a2 _ _ (aD aA (aD aA p1):Nat) 0 0 0 0)).2.2.2.1 ⟨bD (vn:=64) q2 d2 rfl rfl,trivial,D2,trivial,D1,trivial,trivial⟩
 ·have D2:=bD (nn:=224) (vn:=160) q1 d1 rfl rfl
  obtain ⟨m3,d3,e3⟩:=kF fK aA (aD aA p1) 16 (by omega)
  have q3:=Az q2
  obtain ⟨m4,d4,e4⟩:=kF fK aA (aD aA (aD aA p1)) 3 (by omega)
  have c4:m4=0\/m4=1\/m4=2:=by omega
  have c3:m3=0\/m3=1\/m3=2\/m3=3\/m3=4\/m3=5\/m3=6\/m3=7\/m3=8\/m3=9\/m3=10\/m3=11\/m3=12\/m3=13\/m3=14\/m3=15:=by omega
  have D3:=bD (nn:=512) (vn:=32*m3) q2 d3 rfl rfl
  rcases c4 with rfl|rfl|rfl
  ·have D4:=bD (nn:=96) (vn:=0) q3 d4 rfl rfl
   have u:=AQ (b0 (p1:Nat) (aD aA p1:Nat) (aD aA (aD aA p1):Nat) (aD aA (aD aA (aD aA p1)):Nat))
   rcases c3 with rfl|rfl|rfl|rfl|rfl|rfl|rfl|rfl|rfl|rfl|rfl|rfl|rfl|rfl|rfl|rfl
   ·exact fin hm hG hp u.2.2.2.2.2.1 ⟨D4,trivial,D3,trivial,D2,trivial,D1,trivial,trivial⟩
   ·exact fin hm hG hp u.2.2.2.2.2.2.1 ⟨D4,trivial,D3,trivial,D2,trivial,D1,trivial,trivial⟩
   ·exact fin hm hG hp u.2.2.2.2.2.2.2.1 ⟨D4,trivial,D3,trivial,D2,trivial,D1,trivial,trivial⟩
   ·exact fin hm hG hp u.2.2.2.2.2.2.2.2.1 ⟨D4,trivial,D3,trivial,D2,trivial,D1,trivial,trivial⟩
   ·exact fin hm hG hp u.2.2.2.2.2.2.2.2.2.1 ⟨D4,trivial,D3,trivial,D2,trivial,D1,trivial,trivial⟩
   ·exact fin hm hG hp u.2.2.2.2.2.2.2.2.2.2.1 ⟨D4,trivial,D3,trivial,D2,trivial,D1,trivial,trivial⟩
   ·exact fin hm hG hp u.2.2.2.2.2.2.2.2.2.2.2.1 ⟨D4,trivial,D3,trivial,D2,trivial,D1,trivial,trivial⟩
   ·exact fin hm hG hp u.2.2.2.2.2.2.2.2.2.2.2.2.1 ⟨D4,trivial,D3,trivial,D2,trivial,D1,trivial,trivial⟩
   ·exact fin hm hG hp u.2.2.2.2.2.2.2.2.2.2.2.2.2.1 ⟨D4,trivial,D3,trivial,D2,trivial,D1,trivial,trivial⟩
   ·exact fin hm hG hp u.2.2.2.2.2.2.2.2.2.2.2.2.2.2.1 ⟨D4,trivial,D3,trivial,D2,trivial,D1,trivial,trivial⟩
   ·exact fin hm hG hp u.2.2.2.2.2.2.2.2.2.2.2.2.2.2.2.1 ⟨D4,trivial,D3,trivial,D2,trivial,D1,trivial,trivial⟩
   ·exact fin hm hG hp u.2.2.2.2.2.2.2.2.2.2.2.2.2.2.2.2.1 ⟨D4,trivial,D3,trivial,D2,trivial,D1,trivial,trivial⟩
   ·exact fin hm hG hp u.2.2.2.2.2.2.2.2.2.2.2.2.2.2.2.2.2.1 ⟨D4,trivial,D3,trivial,D2,trivial,D1,trivial,trivial⟩
   ·exact fin hm hG hp u.2.2.2.2.2.2.2.2.2.2.2.2.2.2.2.2.2.2.1 ⟨D4,trivial,D3,trivial,D2,trivial,D1,trivial,trivial⟩
   ·exact fin hm hG hp u.2.2.2.2.2.2.2.2.2.2.2.2.2.2.2.2.2.2.2.1 ⟨D4,trivial,D3,trivial,D2,trivial,D1,trivial,trivial⟩
   ·exact fin hm hG hp u.2.2.2.2.2.2.2.2.2.2.2.2.2.2.2.2.2.2.2.2 ⟨D4,trivial,D3,trivial,D2,trivial,D1,trivial,trivial⟩
  ·have D4:=bD (nn:=96) (vn:=32) q3 d4 rfl rfl
   have u:=AQ (b1 (p1:Nat) (aD aA p1:Nat) (aD aA (aD aA p1):Nat) (aD aA (aD aA (aD aA p1)):Nat))
   rcases c3 with rfl|rfl|rfl|rfl|rfl|rfl|rfl|rfl|rfl|rfl|rfl|rfl|rfl|rfl|rfl|rfl
   ·exact fin hm hG hp u.2.2.2.2.2.1 ⟨D4,trivial,D3,trivial,D2,trivial,D1,trivial,trivial⟩
   ·exact fin hm hG hp u.2.2.2.2.2.2.1 ⟨D4,trivial,D3,trivial,D2,trivial,D1,trivial,trivial⟩
   ·exact fin hm hG hp u.2.2.2.2.2.2.2.1 ⟨D4,trivial,D3,trivial,D2,trivial,D1,trivial,trivial⟩
   ·exact fin hm hG hp u.2.2.2.2.2.2.2.2.1 ⟨D4,trivial,D3,trivial,D2,trivial,D1,trivial,trivial⟩
   ·exact fin hm hG hp u.2.2.2.2.2.2.2.2.2.1 ⟨D4,trivial,D3,trivial,D2,trivial,D1,trivial,trivial⟩
   ·exact fin hm hG hp u.2.2.2.2.2.2.2.2.2.2.1 ⟨D4,trivial,D3,trivial,D2,trivial,D1,trivial,trivial⟩
   ·exact fin hm hG hp u.2.2.2.2.2.2.2.2.2.2.2.1 ⟨D4,trivial,D3,trivial,D2,trivial,D1,trivial,trivial⟩
   ·exact fin hm hG hp u.2.2.2.2.2.2.2.2.2.2.2.2.1 ⟨D4,trivial,D3,trivial,D2,trivial,D1,trivial,trivial⟩
   ·exact fin hm hG hp u.2.2.2.2.2.2.2.2.2.2.2.2.2.1 ⟨D4,trivial,D3,trivial,D2,trivial,D1,trivial,trivial⟩
   ·exact fin hm hG hp u.2.2.2.2.2.2.2.2.2.2.2.2.2.2.1 ⟨D4,trivial,D3,trivial,D2,trivial,D1,trivial,trivial⟩
   ·exact fin hm hG hp u.2.2.2.2.2.2.2.2.2.2.2.2.2.2.2.1 ⟨D4,trivial,D3,trivial,D2,trivial,D1,trivial,trivial⟩
   ·exact fin hm hG hp u.2.2.2.2.2.2.2.2.2.2.2.2.2.2.2.2.1 ⟨D4,trivial,D3,trivial,D2,trivial,D1,trivial,trivial⟩
   ·exact fin hm hG hp u.2.2.2.2.2.2.2.2.2.2.2.2.2.2.2.2.2.1 ⟨D4,trivial,D3,trivial,D2,trivial,D1,trivial,trivial⟩
   ·exact fin hm hG hp u.2.2.2.2.2.2.2.2.2.2.2.2.2.2.2.2.2.2.1 ⟨D4,trivial,D3,trivial,D2,trivial,D1,trivial,trivial⟩
   ·exact fin hm hG hp u.2.2.2.2.2.2.2.2.2.2.2.2.2.2.2.2.2.2.2.1 ⟨D4,trivial,D3,trivial,D2,trivial,D1,trivial,trivial⟩
   ·exact fin hm hG hp u.2.2.2.2.2.2.2.2.2.2.2.2.2.2.2.2.2.2.2.2 ⟨D4,trivial,D3,trivial,D2,trivial,D1,trivial,trivial⟩
  ·have D4:=bD (nn:=96) (vn:=64) q3 d4 rfl rfl
   have u:=AQ (b2 (p1:Nat) (aD aA p1:Nat) (aD aA (aD aA p1):Nat) (aD aA (aD aA (aD aA p1)):Nat))
   rcases c3 with rfl|rfl|rfl|rfl|rfl|rfl|rfl|rfl|rfl|rfl|rfl|rfl|rfl|rfl|rfl|rfl
   ·exact fin hm hG hp u.2.2.2.2.2.1 ⟨D4,trivial,D3,trivial,D2,trivial,D1,trivial,trivial⟩
   ·exact fin hm hG hp u.2.2.2.2.2.2.1 ⟨D4,trivial,D3,trivial,D2,trivial,D1,trivial,trivial⟩
   ·exact fin hm hG hp u.2.2.2.2.2.2.2.1 ⟨D4,trivial,D3,trivial,D2,trivial,D1,trivial,trivial⟩
   ·exact fin hm hG hp u.2.2.2.2.2.2.2.2.1 ⟨D4,trivial,D3,trivial,D2,trivial,D1,trivial,trivial⟩
   ·exact fin hm hG hp u.2.2.2.2.2.2.2.2.2.1 ⟨D4,trivial,D3,trivial,D2,trivial,D1,trivial,trivial⟩
   ·exact fin hm hG hp u.2.2.2.2.2.2.2.2.2.2.1 ⟨D4,trivial,D3,trivial,D2,trivial,D1,trivial,trivial⟩
   ·exact fin hm hG hp u.2.2.2.2.2.2.2.2.2.2.2.1 ⟨D4,trivial,D3,trivial,D2,trivial,D1,trivial,trivial⟩
   ·exact fin hm hG hp u.2.2.2.2.2.2.2.2.2.2.2.2.1 ⟨D4,trivial,D3,trivial,D2,trivial,D1,trivial,trivial⟩
   ·exact fin hm hG hp u.2.2.2.2.2.2.2.2.2.2.2.2.2.1 ⟨D4,trivial,D3,trivial,D2,trivial,D1,trivial,trivial⟩
   ·exact fin hm hG hp u.2.2.2.2.2.2.2.2.2.2.2.2.2.2.1 ⟨D4,trivial,D3,trivial,D2,trivial,D1,trivial,trivial⟩
   ·exact fin hm hG hp u.2.2.2.2.2.2.2.2.2.2.2.2.2.2.2.1 ⟨D4,trivial,D3,trivial,D2,trivial,D1,trivial,trivial⟩
   ·exact fin hm hG hp u.2.2.2.2.2.2.2.2.2.2.2.2.2.2.2.2.1 ⟨D4,trivial,D3,trivial,D2,trivial,D1,trivial,trivial⟩
   ·exact fin hm hG hp u.2.2.2.2.2.2.2.2.2.2.2.2.2.2.2.2.2.1 ⟨D4,trivial,D3,trivial,D2,trivial,D1,trivial,trivial⟩
   ·exact fin hm hG hp u.2.2.2.2.2.2.2.2.2.2.2.2.2.2.2.2.2.2.1 ⟨D4,trivial,D3,trivial,D2,trivial,D1,trivial,trivial⟩
   ·exact fin hm hG hp u.2.2.2.2.2.2.2.2.2.2.2.2.2.2.2.2.2.2.2.1 ⟨D4,trivial,D3,trivial,D2,trivial,D1,trivial,trivial⟩
   ·exact fin hm hG hp u.2.2.2.2.2.2.2.2.2.2.2.2.2.2.2.2.2.2.2.2 ⟨D4,trivial,D3,trivial,D2,trivial,D1,trivial,trivial⟩
 ·have D2:=bD (nn:=224) (vn:=192) q1 d1 rfl rfl
  rcases hP with hP|⟨i1,i2,i3,i4,hP⟩
  ·rcases c2 with rfl|rfl|rfl
   ·exact fin hm hG hp (kK (a0 _ _ (aD aA (aD aA p1):Nat) 0 0 0 0)).2.2.2.2.1 ⟨hP,bD (vn:=0) q2 d2 rfl rfl,trivial,hP,D2,trivial,D1,trivial,trivial⟩
   ·exact fin hm hG hp (kK (a1 _ _ (aD aA (aD aA p1):Nat) 0 0 0 0)).2.2.2.2.1 ⟨hP,bD (vn:=32) q2 d2 rfl rfl,trivial,hP,D2,trivial,D1,trivial,trivial⟩
   ·exact fin hm hG hp (kK (a2 _ _ (aD aA (aD aA p1):Nat) 0 0 0 0)).2.2.2.2.1 ⟨hP,bD (vn:=64) q2 d2 rfl rfl,trivial,hP,D2,trivial,D1,trivial,trivial⟩
  ·exact fin hm hG hp (kK (a0 _ _ 0 i1 i2 i3 i4)).2.2.2.2.2 ⟨hP,D2,trivial,D1,trivial,trivial⟩
theorem fn4 (a:Option Addr) (len cap:Nat) (zs:List Int) (h:len<=cap) (ta:Option Addr) (tn tc:Nat) (tb:List UInt8) (w:World) (hL:rW a len cap zs w) (hT:Go.Eng.Arg w (Go.Eng.dJ tb) (.slice ta tn tc)):Calls Tryz.prog 4 #[.slice a len cap,.slice ta tn tc] w fun e w'=>e= .returned (.bool true)/\Go.RowKit.Below w.heap.size w w':=by
 letI l:aB:=⟨a,len,cap,zs,h,fun w=>Go.Eng.Arg w (Go.Eng.dJ tb) (.slice ta tn tc),.slice ta tn tc⟩
 have hv:aU Vz [⟨13,[],gV⟩,TK] #[Value.slice a len cap,Value.slice ta tn tc].toList:=dz.2 ⟨_,_,rfl,(jY (x:=⟨13,[],gV⟩) (.inr rfl)).2 ⟨rfl,rfl⟩,dz.2 ⟨_,[],rfl,(jY (x:=TK) (.inr rfl)).2 ⟨rfl,rfl⟩,dA.2 rfl⟩⟩
 have hE0:okF bV=true:=by kernel_rfl
 have i0:dL ⟨0,[],oZ⟩=some (.int .i64 ((0:Nat):Int)):=Tw 0
 have q0:0<=aA:=Nat.zero_le _
 have hP:kG TK qf\/∃ i1 i2 i3 i4,kG TK (yx i1 i2 i3 i4):=by
  have hx:kG TK (Du tb):=⟨tb,fun w h=>h,rfl⟩
  unfold Du at hx
  cases hp:Go.Eng.parse tb with
  |none=>rw [hp] at hx;exact .inl hx
  |some y=>rw [hp] at hx;exact .inr ⟨_,_,_,_,hx⟩
 have hN:zQ TK (SI (Int.ofNat tn)):=⟨ta,tn,tc,by kernel_rfl,dS⟩
 have e0:bV.sc= .seq (sL bV.sc) (sR bV.sc):=by kernel_rfl
 have e1:(sR bV.sc)= .seq (sL (sR bV.sc)) (sR (sR bV.sc)):=by kernel_rfl
 have e2:(sR (sR bV.sc))= .seq (sL (sR (sR bV.sc))) (sR (sR (sR bV.sc))):=by kernel_rfl
 have e3:(sR (sR (sR bV.sc)))= .seq (sL (sR (sR (sR bV.sc)))) (sR (sR (sR (sR bV.sc)))):=by kernel_rfl
 have e4:(sR (sR (sR (sR bV.sc))))= .seq (sL (sR (sR (sR (sR bV.sc))))) (sR (sR (sR (sR (sR bV.sc))))):=by kernel_rfl
 obtain ⟨m0,d0,b0⟩:=kF fK aA 0 2 (by omega)
 have q1:aD aA 0<=aA:=Az q0
 obtain ⟨m1,d1,b1⟩:=kF fK aA (aD aA 0) 4 (by omega)
 have q2:aD aA (aD aA 0)<=aA:=Az q1
 have q3:=Az q2
 refine anD gW XW hE0 (xs:=[⟨13,[],gV⟩,TK]) rfl (fun cc nt hp hm hG=> ?_) hv w ⟨hL,hT⟩
 obtain ⟨c0x,d0x,rfl,a0,z0⟩:=hp.sq e0
 refine iY (sg gW hm hG a0 (by kernel_rfl) (mpr h_a (iZ trivial))) ?_
 by_cases hlen:tn<=40
 case neg=>exact Tp gW hm hG z0 (mpr (h_x (Int.ofNat tn)) ⟨anX (y:=40) dS (dN (m:=40) rfl) (by simp;omega),hN,trivial⟩)
 obtain ⟨c1x,d1x,rfl,a1,z1⟩:=z0.sq e1
 obtain ⟨c2x,d2x,rfl,a2,z2⟩:=z1.sq e2
 obtain ⟨c3x,d3x,rfl,a3,z3⟩:=z2.sq e3
 obtain ⟨c4x,d4x,rfl,a4,z4⟩:=z3.sq e4
 refine iY (sg gW hm hG a1 (by kernel_rfl) (mpr (h_b (Int.ofNat tn)) (iZ ⟨anY (y:=40) dS (dN (m:=40) rfl) (by simp;omega),hN,trivial⟩))) (iY (sg gW hm hG a2 (by kernel_rfl) (mpr h_n (iZ ⟨rfl,trivial⟩))) ?_)
 have c0:m0=0\/m0=1:=by omega
 have c1:m1=0\/m1=1\/m1=2\/m1=3:=by omega
 rcases c0 with rfl|rfl
 ·rcases c1 with rfl|rfl|rfl|rfl
  ·refine iY (sg gW hm hG a3 (by kernel_rfl) (mpr (GJ (aD aA 0:Nat)) (iZ ⟨jH i0 q0 d0 rfl rfl,trivial,trivial⟩))) (iY (sg gW hm hG a4 (by kernel_rfl) (mpr (avw _ (aD aA (aD aA 0):Nat)) (iZ ⟨jH dS q1 d1 rfl rfl,trivial,trivial⟩))) ?_)
   obtain ⟨m2,d2,b2⟩:=kF fK aA (aD aA (aD aA 0)) 1 (by omega)
   obtain rfl:m2=0:=by omega
   exact tail hm hG z4 _ q3 hP (bD (nn:=32) (vn:=0) q2 d2 rfl rfl) (avE _) (avN _) (av4 _) (awf _) (aww _) (awH _)
  ·refine iY (sg gW hm hG a3 (by kernel_rfl) (mpr (GJ (aD aA 0:Nat)) (iZ ⟨jH i0 q0 d0 rfl rfl,trivial,trivial⟩))) (iY (sg gW hm hG a4 (by kernel_rfl) (mpr (avx _ (aD aA (aD aA 0):Nat)) (iZ ⟨jH dS q1 d1 rfl rfl,trivial,trivial⟩))) ?_)
   obtain ⟨m2,d2,b2⟩:=kF fK aA (aD aA (aD aA 0)) 2 (by omega)
   have c2:m2=0\/m2=1:=by omega
   rcases c2 with rfl|rfl
   ·exact tail hm hG z4 _ q3 hP (bD (nn:=64) (vn:=0) q2 d2 rfl rfl) (awY _) (aw7 _) (axo _) (axw _) (avO _) (avW _)
   ·exact tail hm hG z4 _ q3 hP (bD (nn:=64) (vn:=32) q2 d2 rfl rfl) (awg _) (awo _) (awI _) (awQ _) (aw8 _) (axg _)
  ·refine iY (sg gW hm hG a3 (by kernel_rfl) (mpr (GJ (aD aA 0:Nat)) (iZ ⟨jH i0 q0 d0 rfl rfl,trivial,trivial⟩))) (iY (sg gW hm hG a4 (by kernel_rfl) (mpr (avy _ (aD aA (aD aA 0):Nat)) (iZ ⟨jH dS q1 d1 rfl rfl,trivial,trivial⟩))) ?_)
   obtain ⟨m2,d2,b2⟩:=kF fK aA (aD aA (aD aA 0)) 3 (by omega)
   have c2:m2=0\/m2=1\/m2=2:=by omega
   rcases c2 with rfl|rfl|rfl
   ·exact tail hm hG z4 _ q3 hP (bD (nn:=96) (vn:=0) q2 d2 rfl rfl) (axx _) (avF _) (avX _) (av5 _) (awp _) (awx _)
   ·exact tail hm hG z4 _ q3 hP (bD (nn:=96) (vn:=32) q2 d2 rfl rfl) (awR _) (awZ _) (axh _) (axp _) (avG _) (avP _)
   ·exact tail hm hG z4 _ q3 hP (bD (nn:=96) (vn:=64) q2 d2 rfl rfl) (av6 _) (awh _) (awy _) (awJ _) (aw0 _) (aw9 _)
  ·refine iY (sg gW hm hG a3 (by kernel_rfl) (mpr (GJ (aD aA 0:Nat)) (iZ ⟨jH i0 q0 d0 rfl rfl,trivial,trivial⟩))) (iY (sg gW hm hG a4 (by kernel_rfl) (mpr (avz _ (aD aA (aD aA 0):Nat)) (iZ ⟨jH dS q1 d1 rfl rfl,trivial,trivial⟩))) ?_)
   obtain ⟨m2,d2,b2⟩:=kF fK aA (aD aA (aD aA 0)) 4 (by omega)
   have c2:m2=0\/m2=1\/m2=2\/m2=3:=by omega
   rcases c2 with rfl|rfl|rfl|rfl
   ·exact tail hm hG z4 _ q3 hP (bD (nn:=128) (vn:=0) q2 d2 rfl rfl) (axq _) (axy _) (avQ _) (avY _) (awi _) (awq _)
   ·exact tail hm hG z4 _ q3 hP (bD (nn:=128) (vn:=32) q2 d2 rfl rfl) (awK _) (awS _) (axa _) (axi _) (axz _) (avH _)
   ·exact tail hm hG z4 _ q3 hP (bD (nn:=128) (vn:=64) q2 d2 rfl rfl) (avZ _) (av7 _) (awr _) (awz _) (awT _) (aw1 _)
   ·exact tail hm hG z4 _ q3 hP (bD (nn:=128) (vn:=96) q2 d2 rfl rfl) (axj _) (axr _) (avI _) (avR _) (av8 _) (awj _)
 ·rcases c1 with rfl|rfl|rfl|rfl
  ·refine iY (sg gW hm hG a3 (by kernel_rfl) (mpr (GK (aD aA 0:Nat)) (iZ ⟨jH i0 q0 d0 rfl rfl,trivial,trivial⟩))) (iY (sg gW hm hG a4 (by kernel_rfl) (mpr (avA _ (aD aA (aD aA 0):Nat)) (iZ ⟨jH dS q1 d1 rfl rfl,trivial,trivial⟩))) ?_)
   obtain ⟨m2,d2,b2⟩:=kF fK aA (aD aA (aD aA 0)) 1 (by omega)
   obtain rfl:m2=0:=by omega
   exact tail hm hG z4 _ q3 hP (bD (nn:=32) (vn:=0) q2 d2 rfl rfl) (awC _) (awL _) (aw2 _) (axb _) (axs _) (axA _)
  ·refine iY (sg gW hm hG a3 (by kernel_rfl) (mpr (GK (aD aA 0:Nat)) (iZ ⟨jH i0 q0 d0 rfl rfl,trivial,trivial⟩))) (iY (sg gW hm hG a4 (by kernel_rfl) (mpr (avB _ (aD aA (aD aA 0):Nat)) (iZ ⟨jH dS q1 d1 rfl rfl,trivial,trivial⟩))) ?_)
   obtain ⟨m2,d2,b2⟩:=kF fK aA (aD aA (aD aA 0)) 2 (by omega)
   have c2:m2=0\/m2=1:=by omega
   rcases c2 with rfl|rfl
   ·exact tail hm hG z4 _ q3 hP (bD (nn:=64) (vn:=0) q2 d2 rfl rfl) (avS _) (av0 _) (awk _) (aws _) (awM _) (awU _)
   ·exact tail hm hG z4 _ q3 hP (bD (nn:=64) (vn:=32) q2 d2 rfl rfl) (axc _) (axk _) (axB _) (avJ _) (av1 _) (av9 _)
  ·refine iY (sg gW hm hG a3 (by kernel_rfl) (mpr (GK (aD aA 0:Nat)) (iZ ⟨jH i0 q0 d0 rfl rfl,trivial,trivial⟩))) (iY (sg gW hm hG a4 (by kernel_rfl) (mpr (avC _ (aD aA (aD aA 0):Nat)) (iZ ⟨jH dS q1 d1 rfl rfl,trivial,trivial⟩))) ?_)
   obtain ⟨m2,d2,b2⟩:=kF fK aA (aD aA (aD aA 0)) 3 (by omega)
   have c2:m2=0\/m2=1\/m2=2:=by omega
   rcases c2 with rfl|rfl|rfl
   ·exact tail hm hG z4 _ q3 hP (bD (nn:=96) (vn:=0) q2 d2 rfl rfl) (awt _) (awD _) (awV _) (aw3 _) (axl _) (axt _)
   ·exact tail hm hG z4 _ q3 hP (bD (nn:=96) (vn:=32) q2 d2 rfl rfl) (avK _) (avT _) (awc _) (awl _) (awE _) (awN _)
   ·exact tail hm hG z4 _ q3 hP (bD (nn:=96) (vn:=64) q2 d2 rfl rfl) (aw4 _) (axd _) (axu _) (axC _) (avU _) (av2 _)
  ·refine iY (sg gW hm hG a3 (by kernel_rfl) (mpr (GK (aD aA 0:Nat)) (iZ ⟨jH i0 q0 d0 rfl rfl,trivial,trivial⟩))) (iY (sg gW hm hG a4 (by kernel_rfl) (mpr (avD _ (aD aA (aD aA 0):Nat)) (iZ ⟨jH dS q1 d1 rfl rfl,trivial,trivial⟩))) ?_)
   obtain ⟨m2,d2,b2⟩:=kF fK aA (aD aA (aD aA 0)) 4 (by omega)
   have c2:m2=0\/m2=1\/m2=2\/m2=3:=by omega
   rcases c2 with rfl|rfl|rfl|rfl
   ·exact tail hm hG z4 _ q3 hP (bD (nn:=128) (vn:=0) q2 d2 rfl rfl) (awm _) (awu _) (awO _) (awW _) (axe _) (axm _)
   ·exact tail hm hG z4 _ q3 hP (bD (nn:=128) (vn:=32) q2 d2 rfl rfl) (axD _) (avL _) (av3 _) (awd _) (awv _) (awF _)
   ·exact tail hm hG z4 _ q3 hP (bD (nn:=128) (vn:=64) q2 d2 rfl rfl) (awX _) (aw5 _) (axn _) (axv _) (avM _) (avV _)
   ·exact tail hm hG z4 _ q3 hP (bD (nn:=128) (vn:=96) q2 d2 rfl rfl) (awe _) (awn _) (awG _) (awP _) (aw6 _) (axf _)
end Go.M
