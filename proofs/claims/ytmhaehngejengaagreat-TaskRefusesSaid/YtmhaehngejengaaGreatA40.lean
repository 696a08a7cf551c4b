/-
  Part of a proof: lemmas and definitions of this work.
  No condition.
-/
import Derived.Test.YtmhaehngejengaaGreatA06
import Derived.Test.YtmhaehngejengaaGreatA08
import Derived.Test.YtmhaehngejengaaGreatA09
import Derived.Test.YtmhaehngejengaaGreatA10
import Derived.Test.YtmhaehngejengaaGreatA11
import Derived.Test.YtmhaehngejengaaGreatA13
import Derived.KernelRfl
set_option linter.all false
set_option maxRecDepth 100000
set_option maxHeartbeats 8000000
namespace Go.Eng
open Go Go.Proofs
noncomputable def Ye:List (Nat×zY):=[(15,⟨s15.1,[.cell 6 true 11,.cell 7 true 63,.tmp 8,.tmp 9],49⟩),(16,⟨s16.1,[.tmp 0],67⟩),(20,⟨s20.1,[.cell 2 true 23,.tmp 3],18⟩),(24,⟨s24.1,[.cell 6 true 8],11⟩),(25,⟨Rj.1,[.cell 4 true 11],34⟩),(36,⟨s36.1,[.cell 4 true 26,.tmp 5],28⟩),(37,⟨Rk.1,[.cell 8 true 11,.cell 9 true 26,.tmp 10],34⟩),(43,⟨s43.1,[.tmp 0],13⟩),(44,⟨s44.1,[.cell 8 true 63,.tmp 9],45⟩),(45,⟨Ro.1,[.tmp 2],17⟩),(51,⟨E5.1,[.cell 2 true 11,.tmp 3],133⟩),(65,⟨Ry.1,[.cell 2 true 5,.tmp 3],46⟩),(66,⟨Rz.1,[.cell 0 true 4],2⟩),(67,⟨RD.1,[.tmp 2],38⟩),(85,⟨RI.1,[.cell 6 true 11,.cell 7 true 63,.tmp 8,.tmp 9],129⟩),(89,⟨Nk.1,[.tmp 4],132⟩),(98,⟨Nq.1,[.tmp 6],15⟩),(99,⟨Nr.1,[.cell 4 true 3,.tmp 5],55⟩),(100,⟨Ns.1,[.cell 2 true 8,.tmp 3],17⟩),(101,⟨Nu.1,[.cell 6 true 8,.tmp 7],28⟩),(102,⟨Nv.1,[.cell 2 true 2,.tmp 3],13⟩),(112,⟨RX.1,[.tmp 6],15⟩),(124,⟨RY.1,[.tmp 2],8⟩),(125,⟨RZ.1,[.tmp 2],67⟩),(168,⟨Sv.1,[.tmp 2],11⟩),(182,⟨Ny.1,[.tmp 6],15⟩),(186,⟨Nz.1,[.cell 2 true 3,.tmp 3],14⟩),(187,⟨NC.1,[.tmp 4],16⟩),(208,⟨SG.1,[.cell 6 true 11,.cell 7 true 5,.tmp 8],44⟩),(292,⟨SS.1,[.cell 6 true 11,.cell 7 true 5,.tmp 8],62⟩),(298,⟨SV.1,[.tmp 2],5⟩),(299,⟨SX.1,[.tmp 2],8⟩),(374,⟨TU.1,[.cell 6 true 11,.tmp 7,.tmp 8],32⟩),(451,⟨UQ.1,[.tmp 4,.tmp 5],31⟩),(452,⟨UR.1,[.cell 6 true 11],27⟩)]
theorem aqA:∀ p ∈ Ye,aA Tryz.prog p.1 p.2.sc p.2.res p.2.nt:=by
 unfold Ye
 exact List.forall_mem_cons.2 ⟨Rf,List.forall_mem_cons.2 ⟨ok16,List.forall_mem_cons.2 ⟨aaC,List.forall_mem_cons.2 ⟨ah6,List.forall_mem_cons.2 ⟨ah7,List.forall_mem_cons.2 ⟨ah8,List.forall_mem_cons.2 ⟨ah9,List.forall_mem_cons.2 ⟨aaD,List.forall_mem_cons.2 ⟨aaE,List.forall_mem_cons.2 ⟨aib,List.forall_mem_cons.2 ⟨Rw,List.forall_mem_cons.2 ⟨aij,List.forall_mem_cons.2 ⟨aik,List.forall_mem_cons.2 ⟨ail,List.forall_mem_cons.2 ⟨aiq,List.forall_mem_cons.2 ⟨aaF,List.forall_mem_cons.2 ⟨aaH,List.forall_mem_cons.2 ⟨aaI,List.forall_mem_cons.2 ⟨aaJ,List.forall_mem_cons.2 ⟨aaK,List.forall_mem_cons.2 ⟨aaL,List.forall_mem_cons.2 ⟨aix,List.forall_mem_cons.2 ⟨aiy,List.forall_mem_cons.2 ⟨aiz,List.forall_mem_cons.2 ⟨aiF,List.forall_mem_cons.2 ⟨aaN,List.forall_mem_cons.2 ⟨aaO,List.forall_mem_cons.2 ⟨aaP,List.forall_mem_cons.2 ⟨aiK,List.forall_mem_cons.2 ⟨aiR,List.forall_mem_cons.2 ⟨aiS,List.forall_mem_cons.2 ⟨aiT,List.forall_mem_cons.2 ⟨ajk,List.forall_mem_cons.2 ⟨ajZ,List.forall_mem_cons.2 ⟨aj0,fun _ h=>(by cases h)⟩⟩⟩⟩⟩⟩⟩⟩⟩⟩⟩⟩⟩⟩⟩⟩⟩⟩⟩⟩⟩⟩⟩⟩⟩⟩⟩⟩⟩⟩⟩⟩⟩⟩⟩
noncomputable def adE (f:FuncId):Option zY:=get Ye f
theorem aqB:Ij Tryz.prog adE:=fun f F h=>aqA (f,F) (get_mem h)
theorem awk:Q9 adE 400 16 []=some (Bo true):=by kernel_rfl
theorem aqD:Fn Tryz.prog 16 [] [] (Bo true) [] []:=ah0 aqB awk
end Go.Eng
