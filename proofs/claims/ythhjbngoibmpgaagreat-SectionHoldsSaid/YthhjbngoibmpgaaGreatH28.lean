/-
  SectionHolds: for every input the law returns true, and its arguments read as they did.
  No condition. (The frame was written by the kit's shell program; the walk is this work's.)
-/
import Derived.Test.YthhjbngoibmpgaaGreatRows
import Derived.WalkKit
import Derived.ProofKit
import Derived.OpenShut
import Derived.ShutString
import Derived.ChangeOld
import Derived.Below
import Derived.Test.YthhjbngoibmpgaaGreatH26
import Derived.Test.YthhjbngoibmpgaaGreatH27
set_option linter.all false
set_option maxRecDepth 100000
set_option maxHeartbeats 8000000
namespace Go.Proofs.YthhjbngoibmpgaaGreat.sectionHolds
open Go.ChangeShapes Go.WideShapes Go.ChangeAt Go.RowKit
open Go.ChangeMaps (open_string shut_string)
theorem own:ownKnob Tryz.prog.godebug=none:=by kernel_rfl
theorem laidOut:laidOutB Tryz.prog=true:=by kernel_rfl
def Jv (k:IntKind) (w:World) (a:Option Addr) (len cap:Nat) (zs:List Int):Prop:=
 (a=none/\len=0/\cap=0/\zs=[])\/
 ∃ x,a=some x/\len<=cap/\cap<=maxLen/\zs.length=cap/\(∀ i,i<zs.length->w.cell? (x.add i)=some (.int k (zs.getD i 0)))/\∀ n ∈ zs,(Lit.int k n).wf=true
theorem ae6 {w:World} {a:Option Addr} {len cap:Nat} {zs:List Int} (h:Jv .i64 w a len cap zs):∃ l:List Int,Eng.Arg w (.sl 1 (Eng.encI l)) (.slice a len cap):=by
 rcases h with ⟨rfl,rfl,rfl,rfl⟩|⟨x,rfl,hl,_,hz,hc,hw⟩
 ·exact ⟨[],Eng.Arg.nil w 1⟩
 ·exact ⟨zs.take len,Eng.Arg.ints hl hz hc⟩
theorem walk (a0:Option Addr) (y7 cap0:Nat) (z0:List Int) (w:World) (w0:Jv .i64 w a0 y7 cap0 z0):
 Calls Tryz.prog 4 #[.slice a0 y7 cap0] w fun e w'=>e= .returned (.bool true)/\Below w.heap.size w w':=by
 obtain ⟨l0,hb0⟩:=ae6 w0
 refine (Eng.aeT l0 Eng.ae5).said w _ rfl fun i x u h1 h2=> ?_
 match i with
 |0=>
  simp at h1 h2
  subst h1 h2
  exact hb0
 |n+1=>simp at h1
set_option maxRecDepth 100000 in
theorem lifted (os:Os) (started:os.Started) (H:Type) (enc:TypeId×Value->H):
 ReturnsInHanded {} Tryz.checked os 4 .any (Rows.sectionHoldsSpec.pre6 enc Tryz.prog Tryz.f4 Rows.sectionHoldsRow.domain false) (Rows.sectionHoldsSpec.post enc Tryz.prog Tryz.f4 false true false false):=by
 refine returnsInHanded_of_change (C:=Tryz.checked) own started (by kernel_rfl) Tryz.func4
  (ChangeSpec.witness6 (enc:=enc) (C:=Tryz.checked) false ⟨#[],#[.slice none 0 0],[]⟩ 8 (by kernel_rfl) (by kernel_rfl) (by kernel_rfl) (by kernel_rfl)) ?_
 intro W base args ds gs before hval0 hW hcnd _
 have hval:∀ (j:Nat) t v,Tryz.f4.params[j]? =some t->args[j]? =some v->Value.okWide Tryz.prog W .any base t v:=hval0
 have hW':=hW
 obtain ⟨p,q,qm,hV,rfl,hfz,hnd⟩:=hW
 have hA:DataW.TrodAll enc Tryz.prog W 0 (fun _=>true) true Tryz.f4.params.toList args.toList ds p:=qm
 rw [Tryz.params4] at hA hval
 obtain ⟨v0,vs0,d0,ds0,p0,q0,hargs,rfl,rfl,h0,r0⟩:=trodAll_cons hA
 obtain ⟨rfl,rfl,rfl⟩:=trodAll_nil r0
 obtain rfl:args= #[v0]:=by cases args;simp_all
 obtain ⟨rfl,rfl⟩:=trodVars_none hV
 obtain ⟨a0,y7,cap0,rfl⟩:=okWide_slice Tryz.underlying22 (hval 0 22 v0 rfl rfl)
 have k0:=h0
 have lt0:∀ x ∈ p0,x.block<W.heap.size:=by obtain ⟨m,hm⟩:=k0;exact DataW.trod_lt m _ _ _ hm
 obtain ⟨z0,w0⟩:∃ zs,Jv .i64 W a0 y7 cap0 zs:=by
  obtain ⟨fuel,hf⟩:=h0
  rcases open_ints Tryz.underlying22 Tryz.underlying3 (by kernel_rfl) hf with ⟨hcs,_⟩|⟨x,l,c,zs,hcs,_,hl,hm,hz,_,hcell,hwz⟩
  ·simp [Value.cells] at hcs
   obtain ⟨rfl,rfl,rfl⟩:=hcs
   exact ⟨[],.inl ⟨rfl,rfl,rfl,rfl⟩⟩
  ·simp [Value.cells] at hcs
   obtain ⟨rfl,rfl,rfl⟩:=hcs
   exact ⟨zs,.inr ⟨_,rfl,hl,hm,by simpa using hz,hcell,hwz⟩⟩
 clear qm hval0
 simp only [List.append_nil,List.nil_append] at hW'
 refine (walk a0 y7 cap0 z0 W w0).mono fun e W' ⟨he,Q5⟩=> ?_
 subst he
 exact ⟨_,rfl,_,_,_,[],_,[],hW',trodAll_mk1 (shut_bool Tryz.underlying4 _),(trodAll_cons_mk (Below.trod laidOut (by kernel_rfl) (of_decide_eq_true (by kernel_rfl)) k0 Q5 lt0) trodAll_mk0),rfl,Q5.frame _,fun h=>by cases h⟩
theorem dU {a b:Bool} (h1:a=true) (h2:b=true):(a&&b)=true:=by rw [h1,h2];rfl
theorem ae8 (P:Program) (f:FuncId) (fn:Func) (s:ChangeSpec) (c:OpenClaim) (h0:(c.wf (OpenSpec.ofChange s):Bool)=true) (h1:(laidOutB P:Bool)=true) (h2:(mapsRowed P:Bool)=true) (h3:(fn.params.all (P.readableRec ·):Bool)=true) (h4:(namedTie P c.named s.vars:Bool)=true) (h5:((c.stops==[]):Bool)=true) (h6:((P.stops==[]):Bool)=true) (h7:((c.knobs==[]):Bool)=true) (h8:((P.stopKnobs==[]):Bool)=true) (h9:((c.inPlace==P.inPlace f):Bool)=true) (h10:((c.unfollowed==P.unfollowed f):Bool)=true) (h11:((c.recurses==P.recurses f):Bool)=true) (h12:((c.named==P.varsNamed f):Bool)=true) (Cf:((c.maps==(fn.params.toList++s.plain.varTypes P).any (P.mapsRec ·)):Bool)=true) (h14:((c.ifaces==(fn.params.toList++s.plain.varTypes P).any (P.ifacesRec ·)):Bool)=true) (h15:((c.mapsOut==P.mapsAmong fn.resultTypes.toList):Bool)=true) (h16:((c.loops==(fn.params.toList++s.plain.varTypes P).any (P.loopsFrom ·)):Bool)=true) (h17:((c.wideKeys==(fn.params.toList++s.plain.varTypes P++fn.resultTypes.toList).any (P.wideKeysFrom ·)):Bool)=true) (h18:(s.vars.all (P.varReadable ·):Bool)=true) (h19:(fn.resultTypes.all (fun t=>P.readableRec t&&decide (t<P.types.size)):Bool)=true) (h20:((c.ifacesOut==fn.resultTypes.toList.any (P.ifacesRec ·)):Bool)=true) (h21:((c.loopsOut==fn.resultTypes.toList.any (P.loopsFrom ·)):Bool)=true) (h22:((c.plainKeys==P.plainKeys):Bool)=true) (h23:(c.shortTexts.isNone:Bool)=true) (h24:(P.stopsHeard:Bool)=true) (h25:(P.mayEnter:Bool)=true) (h26:((c.lifted==P.liftsFinal):Bool)=true) (h27:((P.make==some c.make):Bool)=true) (h28:((c.kinds==(if c.domain.isEmpty then [] else fn.params.toList.map fun t=>match P.underlying t with|some (.int k)=>some k|_=>none)):Bool)=true) (h29:((c.pinned==c.pinnedBy):Bool)=true) (h30:((c.veiled==(fn.params.toList++s.plain.varTypes P++fn.resultTypes.toList).any (P.veiledRec ·)):Bool)=true) (h31:(c.veiledFits P fn.params.toList (fn.params.toList++s.plain.varTypes P++fn.resultTypes.toList):Bool)=true):joinedFacts P f fn s c=true:=
 (dU (dU (dU (dU (dU (dU (dU (dU (dU (dU (dU (dU (dU (dU (dU (dU (dU (dU (dU (dU (dU (dU (dU (dU (dU (dU (dU (dU (dU (dU (dU h0 h1) h2) h3) h4) h5) h6) h7) h8) h9) h10) h11) h12) Cf) h14) h15) h16) h17) h18) h19) h20) h21) h22) h23) h24) h25) h26) h27) h28) h29) h30) h31)
def reached:List FuncId:=[4,11,22,16,24,70,21,64,65,66,67,123,68,124,196,198,197,200,125,201,199,69,126,15,17,49,113,50,23,25,71,127,72,128,202,26,73,129,203,284,358,412,292,413,295,285,359,204,287,286,360,205,130,206,207,208,288,209,289,290,210,131,211,212,213,132,214,291,133,215,293,361,369,418,362,216,294,308,350,309,344,404,405,428,445,429,430,425,446,431,408,411,436,435,406,432,448,330,333,223,302,134,217,218,296,297,298,363,414,415,437,459,299,364,219,135,220,300,251,258,250,221,339,400,253,365,13,27,74,58,75,136,137,28,14]
theorem fuel:(Tryz.prog.funcs.toList.map fun g=>(Tryz.prog.leadsTo g).length+1).sum=1641:=by kernel_rfl
theorem reach:Tryz.prog.closureVia 1642 [4] []=reached:=by kernel_rfl
theorem Ci:Tryz.prog.closure 4=reached:=by
 unfold Program.closure
 rw [fuel]
 exact reach
theorem afi:(fun (P:Program) (f:FuncId) (fn:Func) (s:ChangeSpec) (c:OpenClaim)=>(c.wf (OpenSpec.ofChange s):Bool)) Tryz.prog 4 Tryz.f4 Rows.sectionHoldsSpec Rows.sectionHoldsRow=true:=by kernel_rfl
theorem afj:(fun (P:Program) (f:FuncId) (fn:Func) (s:ChangeSpec) (c:OpenClaim)=>(laidOutB P:Bool)) Tryz.prog 4 Tryz.f4 Rows.sectionHoldsSpec Rows.sectionHoldsRow=true:=by kernel_rfl
theorem afk:(fun (P:Program) (f:FuncId) (fn:Func) (s:ChangeSpec) (c:OpenClaim)=>(mapsRowed P:Bool)) Tryz.prog 4 Tryz.f4 Rows.sectionHoldsSpec Rows.sectionHoldsRow=true:=by kernel_rfl
theorem afl:(fun (P:Program) (f:FuncId) (fn:Func) (s:ChangeSpec) (c:OpenClaim)=>(fn.params.all (P.readableRec ·):Bool)) Tryz.prog 4 Tryz.f4 Rows.sectionHoldsSpec Rows.sectionHoldsRow=true:=by kernel_rfl
theorem afm:(fun (P:Program) (f:FuncId) (fn:Func) (s:ChangeSpec) (c:OpenClaim)=>(namedTie P c.named s.vars:Bool)) Tryz.prog 4 Tryz.f4 Rows.sectionHoldsSpec Rows.sectionHoldsRow=true:=by kernel_rfl
theorem afn:(fun (P:Program) (f:FuncId) (fn:Func) (s:ChangeSpec) (c:OpenClaim)=>((c.stops==[]):Bool)) Tryz.prog 4 Tryz.f4 Rows.sectionHoldsSpec Rows.sectionHoldsRow=true:=by kernel_rfl
theorem afo:(fun (P:Program) (f:FuncId) (fn:Func) (s:ChangeSpec) (c:OpenClaim)=>((P.stops==[]):Bool)) Tryz.prog 4 Tryz.f4 Rows.sectionHoldsSpec Rows.sectionHoldsRow=true:=by kernel_rfl
theorem afp:(fun (P:Program) (f:FuncId) (fn:Func) (s:ChangeSpec) (c:OpenClaim)=>((c.knobs==[]):Bool)) Tryz.prog 4 Tryz.f4 Rows.sectionHoldsSpec Rows.sectionHoldsRow=true:=by kernel_rfl
theorem afq:(fun (P:Program) (f:FuncId) (fn:Func) (s:ChangeSpec) (c:OpenClaim)=>((P.stopKnobs==[]):Bool)) Tryz.prog 4 Tryz.f4 Rows.sectionHoldsSpec Rows.sectionHoldsRow=true:=by kernel_rfl
theorem afr:(fun (P:Program) (f:FuncId) (fn:Func) (s:ChangeSpec) (c:OpenClaim)=>((c.inPlace==P.inPlace f):Bool)) Tryz.prog 4 Tryz.f4 Rows.sectionHoldsSpec Rows.sectionHoldsRow=true:=by
 show ((Rows.sectionHoldsRow.inPlace==Tryz.prog.inPlace 4):Bool)=true
 unfold Program.inPlace
 rw [Ci]
 kernel_rfl
theorem afs:(fun (P:Program) (f:FuncId) (fn:Func) (s:ChangeSpec) (c:OpenClaim)=>((c.unfollowed==P.unfollowed f):Bool)) Tryz.prog 4 Tryz.f4 Rows.sectionHoldsSpec Rows.sectionHoldsRow=true:=by
 show ((Rows.sectionHoldsRow.unfollowed==Tryz.prog.unfollowed 4):Bool)=true
 unfold Program.unfollowed
 rw [Ci]
 kernel_rfl
theorem aft:(fun (P:Program) (f:FuncId) (fn:Func) (s:ChangeSpec) (c:OpenClaim)=>((c.recurses==P.recurses f):Bool)) Tryz.prog 4 Tryz.f4 Rows.sectionHoldsSpec Rows.sectionHoldsRow=true:=by
 show ((Rows.sectionHoldsRow.recurses==Tryz.prog.recurses 4):Bool)=true
 unfold Program.recurses Program.unfollowed
 rw [Ci]
 kernel_rfl
theorem afu:(fun (P:Program) (f:FuncId) (fn:Func) (s:ChangeSpec) (c:OpenClaim)=>((c.named==P.varsNamed f):Bool)) Tryz.prog 4 Tryz.f4 Rows.sectionHoldsSpec Rows.sectionHoldsRow=true:=by
 show ((Rows.sectionHoldsRow.named==Tryz.prog.varsNamed 4):Bool)=true
 unfold Program.varsNamed
 rw [Ci]
 kernel_rfl
theorem afv:(fun (P:Program) (f:FuncId) (fn:Func) (s:ChangeSpec) (c:OpenClaim)=>((c.maps==(fn.params.toList++s.plain.varTypes P).any (P.mapsRec ·)):Bool)) Tryz.prog 4 Tryz.f4 Rows.sectionHoldsSpec Rows.sectionHoldsRow=true:=by kernel_rfl
theorem afw:(fun (P:Program) (f:FuncId) (fn:Func) (s:ChangeSpec) (c:OpenClaim)=>((c.ifaces==(fn.params.toList++s.plain.varTypes P).any (P.ifacesRec ·)):Bool)) Tryz.prog 4 Tryz.f4 Rows.sectionHoldsSpec Rows.sectionHoldsRow=true:=by kernel_rfl
theorem afx:(fun (P:Program) (f:FuncId) (fn:Func) (s:ChangeSpec) (c:OpenClaim)=>((c.mapsOut==P.mapsAmong fn.resultTypes.toList):Bool)) Tryz.prog 4 Tryz.f4 Rows.sectionHoldsSpec Rows.sectionHoldsRow=true:=by kernel_rfl
theorem afy:(fun (P:Program) (f:FuncId) (fn:Func) (s:ChangeSpec) (c:OpenClaim)=>((c.loops==(fn.params.toList++s.plain.varTypes P).any (P.loopsFrom ·)):Bool)) Tryz.prog 4 Tryz.f4 Rows.sectionHoldsSpec Rows.sectionHoldsRow=true:=by kernel_rfl
theorem afz:(fun (P:Program) (f:FuncId) (fn:Func) (s:ChangeSpec) (c:OpenClaim)=>((c.wideKeys==(fn.params.toList++s.plain.varTypes P++fn.resultTypes.toList).any (P.wideKeysFrom ·)):Bool)) Tryz.prog 4 Tryz.f4 Rows.sectionHoldsSpec Rows.sectionHoldsRow=true:=by kernel_rfl
theorem afA:(fun (P:Program) (f:FuncId) (fn:Func) (s:ChangeSpec) (c:OpenClaim)=>(s.vars.all (P.varReadable ·):Bool)) Tryz.prog 4 Tryz.f4 Rows.sectionHoldsSpec Rows.sectionHoldsRow=true:=by kernel_rfl
theorem afB:(fun (P:Program) (f:FuncId) (fn:Func) (s:ChangeSpec) (c:OpenClaim)=>(fn.resultTypes.all (fun t=>P.readableRec t&&decide (t<P.types.size)):Bool)) Tryz.prog 4 Tryz.f4 Rows.sectionHoldsSpec Rows.sectionHoldsRow=true:=by kernel_rfl
theorem afC:(fun (P:Program) (f:FuncId) (fn:Func) (s:ChangeSpec) (c:OpenClaim)=>((c.ifacesOut==fn.resultTypes.toList.any (P.ifacesRec ·)):Bool)) Tryz.prog 4 Tryz.f4 Rows.sectionHoldsSpec Rows.sectionHoldsRow=true:=by kernel_rfl
theorem afD:(fun (P:Program) (f:FuncId) (fn:Func) (s:ChangeSpec) (c:OpenClaim)=>((c.loopsOut==fn.resultTypes.toList.any (P.loopsFrom ·)):Bool)) Tryz.prog 4 Tryz.f4 Rows.sectionHoldsSpec Rows.sectionHoldsRow=true:=by kernel_rfl
theorem afE:(fun (P:Program) (f:FuncId) (fn:Func) (s:ChangeSpec) (c:OpenClaim)=>((c.plainKeys==P.plainKeys):Bool)) Tryz.prog 4 Tryz.f4 Rows.sectionHoldsSpec Rows.sectionHoldsRow=true:=by kernel_rfl
theorem afF:(fun (P:Program) (f:FuncId) (fn:Func) (s:ChangeSpec) (c:OpenClaim)=>(c.shortTexts.isNone:Bool)) Tryz.prog 4 Tryz.f4 Rows.sectionHoldsSpec Rows.sectionHoldsRow=true:=by kernel_rfl
theorem afG:(fun (P:Program) (f:FuncId) (fn:Func) (s:ChangeSpec) (c:OpenClaim)=>(P.stopsHeard:Bool)) Tryz.prog 4 Tryz.f4 Rows.sectionHoldsSpec Rows.sectionHoldsRow=true:=by kernel_rfl
theorem afH:(fun (P:Program) (f:FuncId) (fn:Func) (s:ChangeSpec) (c:OpenClaim)=>(P.mayEnter:Bool)) Tryz.prog 4 Tryz.f4 Rows.sectionHoldsSpec Rows.sectionHoldsRow=true:=by kernel_rfl
theorem afI:(fun (P:Program) (f:FuncId) (fn:Func) (s:ChangeSpec) (c:OpenClaim)=>((c.lifted==P.liftsFinal):Bool)) Tryz.prog 4 Tryz.f4 Rows.sectionHoldsSpec Rows.sectionHoldsRow=true:=by kernel_rfl
theorem afJ:(fun (P:Program) (f:FuncId) (fn:Func) (s:ChangeSpec) (c:OpenClaim)=>((P.make==some c.make):Bool)) Tryz.prog 4 Tryz.f4 Rows.sectionHoldsSpec Rows.sectionHoldsRow=true:=by kernel_rfl
theorem afK:(fun (P:Program) (f:FuncId) (fn:Func) (s:ChangeSpec) (c:OpenClaim)=>((c.kinds==(if c.domain.isEmpty then [] else fn.params.toList.map fun t=>match P.underlying t with|some (.int k)=>some k|_=>none)):Bool)) Tryz.prog 4 Tryz.f4 Rows.sectionHoldsSpec Rows.sectionHoldsRow=true:=by kernel_rfl
theorem afL:(fun (P:Program) (f:FuncId) (fn:Func) (s:ChangeSpec) (c:OpenClaim)=>((c.pinned==c.pinnedBy):Bool)) Tryz.prog 4 Tryz.f4 Rows.sectionHoldsSpec Rows.sectionHoldsRow=true:=by kernel_rfl
theorem afM:(fun (P:Program) (f:FuncId) (fn:Func) (s:ChangeSpec) (c:OpenClaim)=>((c.veiled==(fn.params.toList++s.plain.varTypes P++fn.resultTypes.toList).any (P.veiledRec ·)):Bool)) Tryz.prog 4 Tryz.f4 Rows.sectionHoldsSpec Rows.sectionHoldsRow=true:=by kernel_rfl
theorem afN:(fun (P:Program) (f:FuncId) (fn:Func) (s:ChangeSpec) (c:OpenClaim)=>(c.veiledFits P fn.params.toList (fn.params.toList++s.plain.varTypes P++fn.resultTypes.toList):Bool)) Tryz.prog 4 Tryz.f4 Rows.sectionHoldsSpec Rows.sectionHoldsRow=true:=by kernel_rfl
theorem facts:joinedFacts Tryz.prog 4 Tryz.f4 Rows.sectionHoldsSpec Rows.sectionHoldsRow=true:=ae8 _ _ _ _ _ afi afj afk afl afm afn afo afp afq afr afs aft afu afv afw afx afy afz afA afB afC afD afE afF afG afH afI afJ afK afL afM afN
theorem over:Rows.sectionHoldsRow.holds Tryz.pinned (OpenSpec.ofChange Rows.sectionHoldsSpec):=
 OpenClaim.holds_of_wide 4 Tryz.f4 rfl rfl rfl rfl rfl rfl rfl ⟨rfl,rfl,rfl,rfl,rfl⟩ rfl rfl rfl rfl rfl (by kernel_rfl) Tryz.func4 facts
  (of_decide_eq_true (by kernel_rfl)) (by unfold Func.isWrapper;first|(rw [if_pos (by decide+kernel)];kernel_rfl)|(rw [if_neg (by decide+kernel)];exact ⟨rfl,rfl⟩))
  (fun os started H enc _=>lifted os started H enc)
theorem proved:Rows.SectionHoldsSaid:=over
#print axioms proved
end Go.Proofs.YthhjbngoibmpgaaGreat.sectionHolds
