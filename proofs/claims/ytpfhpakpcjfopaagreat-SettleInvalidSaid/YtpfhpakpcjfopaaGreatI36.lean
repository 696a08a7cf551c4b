/-
  SettleInvalid: for every input the law returns true, and its arguments read as they did.
  No condition. (The frame was written by the kit's shell program; the walk is this work's.)
-/
import Derived.Test.YtpfhpakpcjfopaaGreatRows
import Derived.WalkKit
import Derived.ProofKit
import Derived.OpenShut
import Derived.ShutString
import Derived.ChangeOld
import Derived.Below
import Derived.Test.YtpfhpakpcjfopaaGreatI35
import Derived.Test.YtpfhpakpcjfopaaGreatI04
import Derived.Test.YtpfhpakpcjfopaaGreatI17
import Derived.Deep.Slices
import Derived.Deep.Fields
import Derived.ChangeSame
set_option linter.all false
set_option maxRecDepth 100000
set_option maxHeartbeats 8000000
namespace Go.Eng
open Go Go.Proofs Go.ChangeShapes Go.WideShapes Go.Deep
theorem axF {H:Type} {enc:TypeId×Value->H} {w:World} {spare:Nat->Bool} {held:Bool} {fuel:Nat} {cs:List Value} {x:DataW H×List MemPlace}
  (h:DataW.trod enc Tryz.prog w 0 spare held fuel 51 cs=some x):∃ (v:Value) (b:List UInt8),cs=[v]/\Arg w (dJ b) v/\v.oneCell'=true:=by
 rcases open_ints Tryz.underlying51 Tryz.underlying5 (by kernel_rfl) h with ⟨rfl,_⟩|⟨x,len,cap,zs,rfl,_,hl,hm,hz,_,hc,hw⟩
 ·exact ⟨_,[],rfl,Arg.nil w 1,rfl⟩
 ·have hzl:len<=zs.length:=by rw [hz];split<;>omega
  refine ⟨_,(zs.take len).map fun z=>UInt8.ofNat z.toNat,rfl,?_,rfl⟩
  have e:bG ((zs.take len).map fun z=>UInt8.ofNat z.toNat)=((zs.take len).map fun z=>[Value.int .u8 z]).map fun e=>e.map AV.v:=by
   unfold bG
   rw [List.map_map,List.map_map]
   refine List.map_congr_left fun z hz=> ?_
   have hb:=bounds_u8 (hw z (List.mem_of_mem_take hz))
   have e1:((UInt8.ofNat z.toNat).toNat:Int)=z:=by
    rw [UInt8.toNat_ofNat']
    omega
   simp only [Function.comp,B8,e1,List.map_cons,List.map_nil]
  unfold dJ
  rw [e]
  refine Arg.rows hl (by simp;omega) (by omega) (fun e he=>by obtain ⟨z,_,rfl⟩:=List.mem_map.1 he;rfl) (fun e he v hv=>by obtain ⟨z,_,rfl⟩:=List.mem_map.1 he;simp at hv;subst hv;rfl) (fun i j e v h1 h2=> ?_)
  rw [List.getElem?_map] at h1
  have hi:i<len:=by
   rcases Nat.lt_or_ge i len with h|h
   ·exact h
   ·rw [List.getElem?_eq_none (by simp;omega)] at h1;cases h1
  rw [List.getElem?_take,if_pos hi,List.getElem?_eq_getElem (by omega)] at h1
  simp only [Option.map_some,Option.some.injEq] at h1
  subst h1
  cases j with
  |zero=>
   simp only [List.getElem?_cons_zero,Option.some.injEq] at h2
   subst h2
   have:=hc i (by omega)
   rw [Nat.mul_one,Nat.add_zero,this]
   simp [List.getD,List.getElem?_eq_getElem (show i<zs.length by omega)]
  |succ n=>simp at h2
end Go.Eng
namespace Go.Proofs.YtpfhpakpcjfopaaGreat.settleInvalid
open Go.ChangeShapes Go.WideShapes Go.ChangeAt Go.RowKit
open Go.ChangeMaps (open_string shut_string)
theorem own:ownKnob Tryz.prog.godebug=none:=by kernel_rfl
theorem laidOut:laidOutB Tryz.prog=true:=by kernel_rfl
theorem walk (a0:Option Addr) (tX cap0:Nat) (z0:List Int) (a1:Option Addr) (AR wG:Nat) (z1:List UInt8) (w:World) (h0:tX<=cap0) (w0:Go.M.rW a0 tX cap0 z0 w) (w1:Eng.Arg w (Eng.dJ z1) (.slice a1 AR wG)):
 Calls Tryz.prog 4 #[.slice a0 tX cap0,.slice a1 AR wG] w fun e w'=>e= .returned (.bool true)/\Below w.heap.size w w':=Go.M.fn4 a0 tX cap0 z0 h0 a1 AR wG z1 w w0 w1
set_option maxRecDepth 100000 in
theorem lifted (os:Os) (started:os.Started) (H:Type) (enc:TypeId×Value->H):
  ReturnsInHanded {} Tryz.checked os 4 .any (Rows.settleInvalidSpec.pre6 enc Tryz.prog Tryz.f4 Rows.settleInvalidRow.domain false) (Rows.settleInvalidSpec.post enc Tryz.prog Tryz.f4 false true false false):=by
 refine returnsInHanded_of_change (C:=Tryz.checked) own started (by kernel_rfl) Tryz.func4
  (ChangeSpec.witness6 (enc:=enc) (C:=Tryz.checked) false ⟨#[],#[.slice none 0 0,.slice none 0 0],[]⟩ 8 (by kernel_rfl) (by kernel_rfl) (by kernel_rfl) (by kernel_rfl)) ?_
 intro W base args ds gs before hval0 hW hcnd _
 have hval:∀ (j:Nat) t v,Tryz.f4.params[j]? =some t->args[j]? =some v->Value.okWide Tryz.prog W .any base t v:=hval0
 have hW':=hW
 obtain ⟨p,q,wQ,hV,rfl,hfz,hnd⟩:=hW
 have hA:DataW.TrodAll enc Tryz.prog W 0 (fun _=>true) true Tryz.f4.params.toList args.toList ds p:=wQ
 rw [Tryz.params4] at hA hval
 obtain ⟨v0,vs0,d0,ds0,p0,q0,hargs,rfl,rfl,h0,r0⟩:=trodAll_cons hA
 obtain ⟨v1,vs1,d1,ds1,p1,q1,rfl,rfl,rfl,h1,r1⟩:=trodAll_cons r0
 obtain ⟨rfl,rfl,rfl⟩:=trodAll_nil r1
 obtain rfl:args= #[v0,v1]:=by cases args;simp_all
 obtain ⟨rfl,rfl⟩:=trodVars_none hV
 obtain ⟨a0,tX,cap0,rfl⟩:=okWide_slice Tryz.underlying22 (hval 0 22 v0 rfl rfl)
 have k0:=h0
 have lt0:∀ x ∈ p0,x.block<W.heap.size:=by obtain ⟨m,hm⟩:=k0;exact DataW.trod_lt m _ _ _ hm
 obtain ⟨z0,l0,w0⟩:∃ zs,tX<=cap0/\Go.M.rW a0 tX cap0 zs W:=by
  obtain ⟨fuel,hf⟩:=h0
  rcases open_ints Tryz.underlying22 Tryz.underlying3 (by kernel_rfl) hf with ⟨hcs,_⟩|⟨x,l,c,zs,hcs,_,hl,hm,hz,_,hcell,hwz⟩
  ·simp [Value.cells] at hcs
   obtain ⟨rfl,rfl,rfl⟩:=hcs
   exact ⟨[],Nat.le_refl _,.inl ⟨rfl,rfl,rfl,rfl⟩⟩
  ·simp [Value.cells] at hcs
   obtain ⟨rfl,rfl,rfl⟩:=hcs
   exact ⟨zs,hl,.inr ⟨_,rfl,hl,by simpa using hz,hcell⟩⟩
 obtain ⟨a1,AR,wG,rfl⟩:=okWide_slice Tryz.underlying51 (hval 1 51 v1 rfl rfl)
 have k1:=h1
 have HY:∀ x ∈ p1,x.block<W.heap.size:=by obtain ⟨m,hm⟩:=k1;exact DataW.trod_lt m _ _ _ hm
 obtain ⟨z1,w1⟩:∃ zs,Eng.Arg W (Eng.dJ zs) (.slice a1 AR wG):=by
  obtain ⟨fuel,hf⟩:=h1
  obtain ⟨u,b,e1,hu,_⟩:=Eng.axF hf
  simp only [Value.cells,List.cons.injEq,and_true] at e1
  subst e1
  exact ⟨b,hu⟩
 clear wQ hval0
 simp only [List.append_nil,List.nil_append] at hW'
 refine (walk a0 tX cap0 z0 a1 AR wG z1 W l0 w0 w1).mono fun e W' ⟨he,Mj⟩=> ?_
 subst he
 exact ⟨_,rfl,_,_,_,[],_,[],hW',trodAll_mk1 (shut_bool Tryz.underlying4 _),(trodAll_cons_mk (Below.trod laidOut (by kernel_rfl) (of_decide_eq_true (by kernel_rfl)) k0 Mj lt0) (trodAll_cons_mk (Below.trod laidOut (by kernel_rfl) (of_decide_eq_true (by kernel_rfl)) k1 Mj HY) trodAll_mk0)),rfl,Mj.frame _,fun h=>by cases h⟩
theorem eG {a b:Bool} (h1:a=true) (h2:b=true):(a&&b)=true:=by rw [h1,h2];rfl
theorem axH (P:Program) (f:FuncId) (fn:Func) (s:ChangeSpec) (c:OpenClaim) (h0:(c.wf (OpenSpec.ofChange s):Bool)=true) (h1:(laidOutB P:Bool)=true) (h2:(mapsRowed P:Bool)=true) (h3:(fn.params.all (P.readableRec ·):Bool)=true) (h4:(namedTie P c.named s.vars:Bool)=true) (h5:((c.stops==[]):Bool)=true) (h6:((P.stops==[]):Bool)=true) (h7:((c.knobs==[]):Bool)=true) (h8:((P.stopKnobs==[]):Bool)=true) (h9:((c.inPlace==P.inPlace f):Bool)=true) (h10:((c.unfollowed==P.unfollowed f):Bool)=true) (h11:((c.recurses==P.recurses f):Bool)=true) (h12:((c.named==P.varsNamed f):Bool)=true) (h13:((c.maps==(fn.params.toList++s.plain.varTypes P).any (P.mapsRec ·)):Bool)=true) (fD:((c.ifaces==(fn.params.toList++s.plain.varTypes P).any (P.ifacesRec ·)):Bool)=true) (h15:((c.mapsOut==P.mapsAmong fn.resultTypes.toList):Bool)=true) (h16:((c.loops==(fn.params.toList++s.plain.varTypes P).any (P.loopsFrom ·)):Bool)=true) (h17:((c.wideKeys==(fn.params.toList++s.plain.varTypes P++fn.resultTypes.toList).any (P.wideKeysFrom ·)):Bool)=true) (h18:(s.vars.all (P.varReadable ·):Bool)=true) (h19:(fn.resultTypes.all (fun t=>P.readableRec t&&decide (t<P.types.size)):Bool)=true) (h20:((c.ifacesOut==fn.resultTypes.toList.any (P.ifacesRec ·)):Bool)=true) (h21:((c.loopsOut==fn.resultTypes.toList.any (P.loopsFrom ·)):Bool)=true) (h22:((c.plainKeys==P.plainKeys):Bool)=true) (h23:(c.shortTexts.isNone:Bool)=true) (h24:(P.stopsHeard:Bool)=true) (h25:(P.mayEnter:Bool)=true) (h26:((c.lifted==P.liftsFinal):Bool)=true) (h27:((P.make==some c.make):Bool)=true) (h28:((c.kinds==(if c.domain.isEmpty then [] else fn.params.toList.map fun t=>match P.underlying t with|some (.int k)=>some k|_=>none)):Bool)=true) (h29:((c.pinned==c.pinnedBy):Bool)=true) (K8:((c.veiled==(fn.params.toList++s.plain.varTypes P++fn.resultTypes.toList).any (P.veiledRec ·)):Bool)=true) (h31:(c.veiledFits P fn.params.toList (fn.params.toList++s.plain.varTypes P++fn.resultTypes.toList):Bool)=true):joinedFacts P f fn s c=true:=
 (eG (eG (eG (eG (eG (eG (eG (eG (eG (eG (eG (eG (eG (eG (eG (eG (eG (eG (eG (eG (eG (eG (eG (eG (eG (eG (eG (eG (eG (eG (eG h0 h1) h2) h3) h4) h5) h6) h7) h8) h9) h10) h11) h12) h13) fD) h15) h16) h17) h18) h19) h20) h21) h22) h23) h24) h25) h26) h27) h28) h29) K8) h31)
theorem axQ:(fun (P:Program) (f:FuncId) (fn:Func) (s:ChangeSpec) (c:OpenClaim)=>(c.wf (OpenSpec.ofChange s):Bool)) Tryz.prog 4 Tryz.f4 Rows.settleInvalidSpec Rows.settleInvalidRow=true:=by kernel_rfl
theorem axR:(fun (P:Program) (f:FuncId) (fn:Func) (s:ChangeSpec) (c:OpenClaim)=>(laidOutB P:Bool)) Tryz.prog 4 Tryz.f4 Rows.settleInvalidSpec Rows.settleInvalidRow=true:=by kernel_rfl
theorem axS:(fun (P:Program) (f:FuncId) (fn:Func) (s:ChangeSpec) (c:OpenClaim)=>(mapsRowed P:Bool)) Tryz.prog 4 Tryz.f4 Rows.settleInvalidSpec Rows.settleInvalidRow=true:=by kernel_rfl
theorem axT:(fun (P:Program) (f:FuncId) (fn:Func) (s:ChangeSpec) (c:OpenClaim)=>(fn.params.all (P.readableRec ·):Bool)) Tryz.prog 4 Tryz.f4 Rows.settleInvalidSpec Rows.settleInvalidRow=true:=by kernel_rfl
theorem axU:(fun (P:Program) (f:FuncId) (fn:Func) (s:ChangeSpec) (c:OpenClaim)=>(namedTie P c.named s.vars:Bool)) Tryz.prog 4 Tryz.f4 Rows.settleInvalidSpec Rows.settleInvalidRow=true:=by kernel_rfl
theorem axV:(fun (P:Program) (f:FuncId) (fn:Func) (s:ChangeSpec) (c:OpenClaim)=>((c.stops==[]):Bool)) Tryz.prog 4 Tryz.f4 Rows.settleInvalidSpec Rows.settleInvalidRow=true:=by kernel_rfl
theorem axW:(fun (P:Program) (f:FuncId) (fn:Func) (s:ChangeSpec) (c:OpenClaim)=>((P.stops==[]):Bool)) Tryz.prog 4 Tryz.f4 Rows.settleInvalidSpec Rows.settleInvalidRow=true:=by kernel_rfl
theorem axX:(fun (P:Program) (f:FuncId) (fn:Func) (s:ChangeSpec) (c:OpenClaim)=>((c.knobs==[]):Bool)) Tryz.prog 4 Tryz.f4 Rows.settleInvalidSpec Rows.settleInvalidRow=true:=by kernel_rfl
theorem axY:(fun (P:Program) (f:FuncId) (fn:Func) (s:ChangeSpec) (c:OpenClaim)=>((P.stopKnobs==[]):Bool)) Tryz.prog 4 Tryz.f4 Rows.settleInvalidSpec Rows.settleInvalidRow=true:=by kernel_rfl
theorem axZ:(fun (P:Program) (f:FuncId) (fn:Func) (s:ChangeSpec) (c:OpenClaim)=>((c.inPlace==P.inPlace f):Bool)) Tryz.prog 4 Tryz.f4 Rows.settleInvalidSpec Rows.settleInvalidRow=true:=by kernel_rfl
theorem ax0:(fun (P:Program) (f:FuncId) (fn:Func) (s:ChangeSpec) (c:OpenClaim)=>((c.unfollowed==P.unfollowed f):Bool)) Tryz.prog 4 Tryz.f4 Rows.settleInvalidSpec Rows.settleInvalidRow=true:=by kernel_rfl
theorem ax1:(fun (P:Program) (f:FuncId) (fn:Func) (s:ChangeSpec) (c:OpenClaim)=>((c.recurses==P.recurses f):Bool)) Tryz.prog 4 Tryz.f4 Rows.settleInvalidSpec Rows.settleInvalidRow=true:=by kernel_rfl
theorem ax2:(fun (P:Program) (f:FuncId) (fn:Func) (s:ChangeSpec) (c:OpenClaim)=>((c.named==P.varsNamed f):Bool)) Tryz.prog 4 Tryz.f4 Rows.settleInvalidSpec Rows.settleInvalidRow=true:=by kernel_rfl
theorem ax3:(fun (P:Program) (f:FuncId) (fn:Func) (s:ChangeSpec) (c:OpenClaim)=>((c.maps==(fn.params.toList++s.plain.varTypes P).any (P.mapsRec ·)):Bool)) Tryz.prog 4 Tryz.f4 Rows.settleInvalidSpec Rows.settleInvalidRow=true:=by kernel_rfl
theorem ax4:(fun (P:Program) (f:FuncId) (fn:Func) (s:ChangeSpec) (c:OpenClaim)=>((c.ifaces==(fn.params.toList++s.plain.varTypes P).any (P.ifacesRec ·)):Bool)) Tryz.prog 4 Tryz.f4 Rows.settleInvalidSpec Rows.settleInvalidRow=true:=by kernel_rfl
theorem ax5:(fun (P:Program) (f:FuncId) (fn:Func) (s:ChangeSpec) (c:OpenClaim)=>((c.mapsOut==P.mapsAmong fn.resultTypes.toList):Bool)) Tryz.prog 4 Tryz.f4 Rows.settleInvalidSpec Rows.settleInvalidRow=true:=by kernel_rfl
theorem ax6:(fun (P:Program) (f:FuncId) (fn:Func) (s:ChangeSpec) (c:OpenClaim)=>((c.loops==(fn.params.toList++s.plain.varTypes P).any (P.loopsFrom ·)):Bool)) Tryz.prog 4 Tryz.f4 Rows.settleInvalidSpec Rows.settleInvalidRow=true:=by kernel_rfl
theorem ax7:(fun (P:Program) (f:FuncId) (fn:Func) (s:ChangeSpec) (c:OpenClaim)=>((c.wideKeys==(fn.params.toList++s.plain.varTypes P++fn.resultTypes.toList).any (P.wideKeysFrom ·)):Bool)) Tryz.prog 4 Tryz.f4 Rows.settleInvalidSpec Rows.settleInvalidRow=true:=by kernel_rfl
theorem ax8:(fun (P:Program) (f:FuncId) (fn:Func) (s:ChangeSpec) (c:OpenClaim)=>(s.vars.all (P.varReadable ·):Bool)) Tryz.prog 4 Tryz.f4 Rows.settleInvalidSpec Rows.settleInvalidRow=true:=by kernel_rfl
theorem ax9:(fun (P:Program) (f:FuncId) (fn:Func) (s:ChangeSpec) (c:OpenClaim)=>(fn.resultTypes.all (fun t=>P.readableRec t&&decide (t<P.types.size)):Bool)) Tryz.prog 4 Tryz.f4 Rows.settleInvalidSpec Rows.settleInvalidRow=true:=by kernel_rfl
theorem aya:(fun (P:Program) (f:FuncId) (fn:Func) (s:ChangeSpec) (c:OpenClaim)=>((c.ifacesOut==fn.resultTypes.toList.any (P.ifacesRec ·)):Bool)) Tryz.prog 4 Tryz.f4 Rows.settleInvalidSpec Rows.settleInvalidRow=true:=by kernel_rfl
theorem ayb:(fun (P:Program) (f:FuncId) (fn:Func) (s:ChangeSpec) (c:OpenClaim)=>((c.loopsOut==fn.resultTypes.toList.any (P.loopsFrom ·)):Bool)) Tryz.prog 4 Tryz.f4 Rows.settleInvalidSpec Rows.settleInvalidRow=true:=by kernel_rfl
theorem ayc:(fun (P:Program) (f:FuncId) (fn:Func) (s:ChangeSpec) (c:OpenClaim)=>((c.plainKeys==P.plainKeys):Bool)) Tryz.prog 4 Tryz.f4 Rows.settleInvalidSpec Rows.settleInvalidRow=true:=by kernel_rfl
theorem ayd:(fun (P:Program) (f:FuncId) (fn:Func) (s:ChangeSpec) (c:OpenClaim)=>(c.shortTexts.isNone:Bool)) Tryz.prog 4 Tryz.f4 Rows.settleInvalidSpec Rows.settleInvalidRow=true:=by kernel_rfl
theorem aye:(fun (P:Program) (f:FuncId) (fn:Func) (s:ChangeSpec) (c:OpenClaim)=>(P.stopsHeard:Bool)) Tryz.prog 4 Tryz.f4 Rows.settleInvalidSpec Rows.settleInvalidRow=true:=by kernel_rfl
theorem ayf:(fun (P:Program) (f:FuncId) (fn:Func) (s:ChangeSpec) (c:OpenClaim)=>(P.mayEnter:Bool)) Tryz.prog 4 Tryz.f4 Rows.settleInvalidSpec Rows.settleInvalidRow=true:=by kernel_rfl
theorem ayg:(fun (P:Program) (f:FuncId) (fn:Func) (s:ChangeSpec) (c:OpenClaim)=>((c.lifted==P.liftsFinal):Bool)) Tryz.prog 4 Tryz.f4 Rows.settleInvalidSpec Rows.settleInvalidRow=true:=by kernel_rfl
theorem ayh:(fun (P:Program) (f:FuncId) (fn:Func) (s:ChangeSpec) (c:OpenClaim)=>((P.make==some c.make):Bool)) Tryz.prog 4 Tryz.f4 Rows.settleInvalidSpec Rows.settleInvalidRow=true:=by kernel_rfl
theorem ayi:(fun (P:Program) (f:FuncId) (fn:Func) (s:ChangeSpec) (c:OpenClaim)=>((c.kinds==(if c.domain.isEmpty then [] else fn.params.toList.map fun t=>match P.underlying t with|some (.int k)=>some k|_=>none)):Bool)) Tryz.prog 4 Tryz.f4 Rows.settleInvalidSpec Rows.settleInvalidRow=true:=by kernel_rfl
theorem ayj:(fun (P:Program) (f:FuncId) (fn:Func) (s:ChangeSpec) (c:OpenClaim)=>((c.pinned==c.pinnedBy):Bool)) Tryz.prog 4 Tryz.f4 Rows.settleInvalidSpec Rows.settleInvalidRow=true:=by kernel_rfl
theorem ayk:(fun (P:Program) (f:FuncId) (fn:Func) (s:ChangeSpec) (c:OpenClaim)=>((c.veiled==(fn.params.toList++s.plain.varTypes P++fn.resultTypes.toList).any (P.veiledRec ·)):Bool)) Tryz.prog 4 Tryz.f4 Rows.settleInvalidSpec Rows.settleInvalidRow=true:=by kernel_rfl
theorem ayl:(fun (P:Program) (f:FuncId) (fn:Func) (s:ChangeSpec) (c:OpenClaim)=>(c.veiledFits P fn.params.toList (fn.params.toList++s.plain.varTypes P++fn.resultTypes.toList):Bool)) Tryz.prog 4 Tryz.f4 Rows.settleInvalidSpec Rows.settleInvalidRow=true:=by kernel_rfl
theorem facts:joinedFacts Tryz.prog 4 Tryz.f4 Rows.settleInvalidSpec Rows.settleInvalidRow=true:=axH _ _ _ _ _ axQ axR axS axT axU axV axW axX axY axZ ax0 ax1 ax2 ax3 ax4 ax5 ax6 ax7 ax8 ax9 aya ayb ayc ayd aye ayf ayg ayh ayi ayj ayk ayl
theorem over:Rows.settleInvalidRow.holds Tryz.pinned (OpenSpec.ofChange Rows.settleInvalidSpec):=
 OpenClaim.holds_of_wide 4 Tryz.f4 rfl rfl rfl rfl rfl rfl rfl ⟨rfl,rfl,rfl,rfl,rfl⟩ rfl rfl rfl rfl rfl (by kernel_rfl) Tryz.func4 facts
  (of_decide_eq_true (by kernel_rfl)) (by unfold Func.isWrapper;first|(rw [if_pos (by decide+kernel)];kernel_rfl)|(rw [if_neg (by decide+kernel)];exact ⟨rfl,rfl⟩))
  (fun os started H enc _=>lifted os started H enc)
theorem proved:Rows.SettleInvalidSaid:=
 over
#print axioms proved
end Go.Proofs.YtpfhpakpcjfopaaGreat.settleInvalid
