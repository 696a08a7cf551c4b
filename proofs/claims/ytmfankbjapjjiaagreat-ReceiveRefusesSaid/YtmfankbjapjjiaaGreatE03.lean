/-
  ReceiveRefuses: for every input the law returns true, and its arguments read as they did.
  No condition. (The frame was written by the kit's shell program; the walk is this work's.)
-/
import Derived.Test.YtmfankbjapjjiaaGreatRows
import Derived.WalkKit
import Derived.ProofKit
import Derived.OpenShut
import Derived.ShutString
import Derived.ChangeOld
import Derived.Below
import Derived.Test.YtmfankbjapjjiaaGreatE01
import Derived.Test.YtmfankbjapjjiaaGreatE02
import Derived.Test.YtmfankbjapjjiaaGreatE00
set_option linter.all false
set_option maxRecDepth 100000
set_option maxHeartbeats 8000000
namespace Go.Proofs.YtmfankbjapjjiaaGreat.receiveRefuses
open Go.ChangeShapes Go.WideShapes Go.ChangeAt Go.RowKit
open Go.ChangeMaps (open_string shut_string)
theorem own:ownKnob Tryz.prog.godebug=none:=by kernel_rfl
theorem laidOut:laidOutB Tryz.prog=true:=by kernel_rfl
def mH (k:IntKind) (w:World) (a:Option Addr) (len cap:Nat) (zs:List Int):Prop:=
 (a=none/\len=0/\cap=0/\zs=[])\/
 ∃ x,a=some x/\len<=cap/\cap<=maxLen/\zs.length=cap/\(∀ i,i<zs.length->w.cell? (x.add i)=some (.int k (zs.getD i 0)))/\∀ n ∈ zs,(Lit.int k n).wf=true
theorem Bn {w:World} {a:Option Addr} {len cap:Nat} {zs:List Int} (h:mH .i64 w a len cap zs):∃ l:List Int,Eng.Arg w (.sl 1 (Eng.encI l)) (.slice a len cap):=by
 rcases h with ⟨rfl,rfl,rfl,rfl⟩|⟨x,rfl,hl,_,hz,hc,hw⟩
 ·exact ⟨[],Eng.Arg.nil w 1⟩
 ·exact ⟨zs.take len,Eng.Arg.ints hl hz hc⟩
theorem walk (a0:Option Addr) (iR cap0:Nat) (z0:List Int) (w:World) (w0:mH .i64 w a0 iR cap0 z0):
 Calls Tryz.prog 6 #[.slice a0 iR cap0] w fun e w'=>e= .returned (.bool true)/\Below w.heap.size w w':=by
 obtain ⟨l0,hb0⟩:=Bn w0
 refine (Eng.aqZ l0 Eng.aq0).said w _ rfl fun i x u h1 h2=> ?_
 match i with
 |0=>
  simp at h1 h2
  subst h1 h2
  exact hb0
 |n+1=>simp at h1
set_option maxRecDepth 100000 in
theorem lifted (os:Os) (started:os.Started) (H:Type) (enc:TypeId×Value->H):
 ReturnsInHanded {} Tryz.checked os 6 .any (Rows.receiveRefusesSpec.pre6 enc Tryz.prog Tryz.f6 Rows.receiveRefusesRow.domain false) (Rows.receiveRefusesSpec.post enc Tryz.prog Tryz.f6 false true false false):=by
 refine returnsInHanded_of_change (C:=Tryz.checked) own started (by kernel_rfl) Tryz.func6
  (ChangeSpec.witness6 (enc:=enc) (C:=Tryz.checked) false ⟨#[],#[.slice none 0 0],[]⟩ 8 (by kernel_rfl) (by kernel_rfl) (by kernel_rfl) (by kernel_rfl)) ?_
 intro W base args ds gs before hval0 hW hcnd _
 have hval:∀ (j:Nat) t v,Tryz.f6.params[j]? =some t->args[j]? =some v->Value.okWide Tryz.prog W .any base t v:=hval0
 have hW':=hW
 obtain ⟨p,q,kR,hV,rfl,hfz,hnd⟩:=hW
 have hA:DataW.TrodAll enc Tryz.prog W 0 (fun _=>true) true Tryz.f6.params.toList args.toList ds p:=kR
 rw [Tryz.params6] at hA hval
 obtain ⟨v0,XI,d0,ds0,p0,q0,hargs,rfl,rfl,h0,r0⟩:=trodAll_cons hA
 obtain ⟨rfl,rfl,rfl⟩:=trodAll_nil r0
 obtain rfl:args= #[v0]:=by cases args;simp_all
 obtain ⟨rfl,rfl⟩:=trodVars_none hV
 obtain ⟨a0,iR,cap0,rfl⟩:=okWide_slice Tryz.underlying22 (hval 0 22 v0 rfl rfl)
 have k0:=h0
 have Bp:∀ x ∈ p0,x.block<W.heap.size:=by obtain ⟨m,hm⟩:=k0;exact DataW.trod_lt m _ _ _ hm
 obtain ⟨z0,w0⟩:∃ zs,mH .i64 W a0 iR cap0 zs:=by
  obtain ⟨fuel,hf⟩:=h0
  rcases open_ints Tryz.underlying22 Tryz.underlying3 (by kernel_rfl) hf with ⟨hcs,_⟩|⟨x,l,c,zs,hcs,_,hl,hm,hz,_,hcell,hwz⟩
  ·simp [Value.cells] at hcs
   obtain ⟨rfl,rfl,rfl⟩:=hcs
   exact ⟨[],.inl ⟨rfl,rfl,rfl,rfl⟩⟩
  ·simp [Value.cells] at hcs
   obtain ⟨rfl,rfl,rfl⟩:=hcs
   exact ⟨zs,.inr ⟨_,rfl,hl,hm,by simpa using hz,hcell,hwz⟩⟩
 clear kR hval0
 simp only [List.append_nil,List.nil_append] at hW'
 refine (walk a0 iR cap0 z0 W w0).mono fun e W' ⟨he,rH⟩=> ?_
 subst he
 exact ⟨_,rfl,_,_,_,[],_,[],hW',trodAll_mk1 (shut_bool Tryz.underlying4 _),(trodAll_cons_mk (Below.trod laidOut (by kernel_rfl) (of_decide_eq_true (by kernel_rfl)) k0 rH Bp) trodAll_mk0),rfl,rH.frame _,fun h=>by cases h⟩
theorem bq {a b:Bool} (h1:a=true) (h2:b=true):(a&&b)=true:=by rw [h1,h2];rfl
theorem Bq (P:Program) (f:FuncId) (fn:Func) (s:ChangeSpec) (c:OpenClaim) (h0:(c.wf (OpenSpec.ofChange s):Bool)=true) (h1:(laidOutB P:Bool)=true) (h2:(mapsRowed P:Bool)=true) (h3:(fn.params.all (P.readableRec ·):Bool)=true) (h4:(namedTie P c.named s.vars:Bool)=true) (h5:((c.stops==[]):Bool)=true) (h6:((P.stops==[]):Bool)=true) (h7:((c.knobs==[]):Bool)=true) (h8:((P.stopKnobs==[]):Bool)=true) (h9:((c.inPlace==P.inPlace f):Bool)=true) (h10:((c.unfollowed==P.unfollowed f):Bool)=true) (h11:((c.recurses==P.recurses f):Bool)=true) (h12:((c.named==P.varsNamed f):Bool)=true) (Br:((c.maps==(fn.params.toList++s.plain.varTypes P).any (P.mapsRec ·)):Bool)=true) (jh:((c.ifaces==(fn.params.toList++s.plain.varTypes P).any (P.ifacesRec ·)):Bool)=true) (Bt:((c.mapsOut==P.mapsAmong fn.resultTypes.toList):Bool)=true) (h16:((c.loops==(fn.params.toList++s.plain.varTypes P).any (P.loopsFrom ·)):Bool)=true) (Bu:((c.wideKeys==(fn.params.toList++s.plain.varTypes P++fn.resultTypes.toList).any (P.wideKeysFrom ·)):Bool)=true) (h18:(s.vars.all (P.varReadable ·):Bool)=true) (h19:(fn.resultTypes.all (fun t=>P.readableRec t&&decide (t<P.types.size)):Bool)=true) (h20:((c.ifacesOut==fn.resultTypes.toList.any (P.ifacesRec ·)):Bool)=true) (h21:((c.loopsOut==fn.resultTypes.toList.any (P.loopsFrom ·)):Bool)=true) (h22:((c.plainKeys==P.plainKeys):Bool)=true) (h23:(c.shortTexts.isNone:Bool)=true) (Bv:(P.stopsHeard:Bool)=true) (Bw:(P.mayEnter:Bool)=true) (Bz:((c.lifted==P.liftsFinal):Bool)=true) (h27:((P.make==some c.make):Bool)=true) (BA:((c.kinds==(if c.domain.isEmpty then [] else fn.params.toList.map fun t=>match P.underlying t with|some (.int k)=>some k|_=>none)):Bool)=true) (BB:((c.pinned==c.pinnedBy):Bool)=true) (BD:((c.veiled==(fn.params.toList++s.plain.varTypes P++fn.resultTypes.toList).any (P.veiledRec ·)):Bool)=true) (h31:(c.veiledFits P fn.params.toList (fn.params.toList++s.plain.varTypes P++fn.resultTypes.toList):Bool)=true):joinedFacts P f fn s c=true:=
 (bq (bq (bq (bq (bq (bq (bq (bq (bq (bq (bq (bq (bq (bq (bq (bq (bq (bq (bq (bq (bq (bq (bq (bq (bq (bq (bq (bq (bq (bq (bq h0 h1) h2) h3) h4) h5) h6) h7) h8) h9) h10) h11) h12) Br) jh) Bt) h16) Bu) h18) h19) h20) h21) h22) h23) Bv) Bw) Bz) h27) BA) BB) BD) h31)
def reached:List FuncId:=[6,7,8,18,50,51,86,19,52,53,87,88,89,17,20,54,90,91,92,139,93,140,94,49,82,83,107,159,210,211,260,261,262,263,158,264,266,185,241,265,267,270,317,329,328,273,330,384,268,318,380,414,452,476,477,478,453,397,415,416,280,336,454,455,479,417,456,457,418,419,458,394,406,381,422,382,459,386,429,425,430,464,467,465,481,432,351,400,436,401,398,435,469,420,460,461,421,462,463,480,332,402,389,395,390,269,319,278,288,346,320,321,322,323,325,324,326,383,423,424,212,271,327,272,274,331,358,404,405,438,466,468,483,482,439,388,433,385,392,426,427,403,437,428,434,275,138,186,213,137,183,184,276,277,279,333,387,431,334,391,335,393,214,215,281,282,283,337,216,284,285,338,339,340,341,217,286,287,342,345,343,396,344,218,289,347,350,348,399,349,219,290,352,355,353,354,220,291,356,357,221,292,360,359,361,84,136,85,61,63,108,160,15,43,44,45,37,55,73,125,127,126,141,95,142,128,38,79,67,47,56,96,143,97,46,57,98,144,187,242,311,376,249,111,377,250,243,312,188,245,244,313,189,145,190,191,192,246,193,247,248,194,146,195,196,197,147,198,64,148,199,204,256,167,226,257,200,165,222,232,293,223,234,294,362,369,363,304,302,370,364,373,301,368,410,295,365,407,166,224,225,238,130,105,157,209,149,201,251,252,253,314,378,379,413,451,254,315,202,150,104,156,203,255,172,175,170,129,227,296,152,176,80,74,75,134,135,181,171,154,205,206,207,237,306,372,409,448,449,408,440,441,470,442,471,472,443,473,474,484,444,445,446,447,307,233,299,300,174,229,235,303,305,371,297,366,177,230,298,367,316,231,182,179,239,240,308,374,309,310,236,375,411,412,450,475,118,70,59,81,123,168,115,169,164,65,109,110,16,24,25,62,106,48]
theorem fuel:(Tryz.prog.funcs.toList.map fun g=>(Tryz.prog.leadsTo g).length+1).sum=1638:=by kernel_rfl
theorem reach:Tryz.prog.closureVia 1639 [6] []=reached:=by kernel_rfl
theorem jZ:Tryz.prog.closure 6=reached:=by
 unfold Program.closure
 rw [fuel]
 exact reach
theorem BF:(fun (P:Program) (f:FuncId) (fn:Func) (s:ChangeSpec) (c:OpenClaim)=>(c.wf (OpenSpec.ofChange s):Bool)) Tryz.prog 6 Tryz.f6 Rows.receiveRefusesSpec Rows.receiveRefusesRow=true:=by kernel_rfl
theorem BG:(fun (P:Program) (f:FuncId) (fn:Func) (s:ChangeSpec) (c:OpenClaim)=>(laidOutB P:Bool)) Tryz.prog 6 Tryz.f6 Rows.receiveRefusesSpec Rows.receiveRefusesRow=true:=by kernel_rfl
theorem BH:(fun (P:Program) (f:FuncId) (fn:Func) (s:ChangeSpec) (c:OpenClaim)=>(mapsRowed P:Bool)) Tryz.prog 6 Tryz.f6 Rows.receiveRefusesSpec Rows.receiveRefusesRow=true:=by kernel_rfl
theorem BI:(fun (P:Program) (f:FuncId) (fn:Func) (s:ChangeSpec) (c:OpenClaim)=>(fn.params.all (P.readableRec ·):Bool)) Tryz.prog 6 Tryz.f6 Rows.receiveRefusesSpec Rows.receiveRefusesRow=true:=by kernel_rfl
theorem BJ:(fun (P:Program) (f:FuncId) (fn:Func) (s:ChangeSpec) (c:OpenClaim)=>(namedTie P c.named s.vars:Bool)) Tryz.prog 6 Tryz.f6 Rows.receiveRefusesSpec Rows.receiveRefusesRow=true:=by kernel_rfl
theorem BK:(fun (P:Program) (f:FuncId) (fn:Func) (s:ChangeSpec) (c:OpenClaim)=>((c.stops==[]):Bool)) Tryz.prog 6 Tryz.f6 Rows.receiveRefusesSpec Rows.receiveRefusesRow=true:=by kernel_rfl
theorem BL:(fun (P:Program) (f:FuncId) (fn:Func) (s:ChangeSpec) (c:OpenClaim)=>((P.stops==[]):Bool)) Tryz.prog 6 Tryz.f6 Rows.receiveRefusesSpec Rows.receiveRefusesRow=true:=by kernel_rfl
theorem BM:(fun (P:Program) (f:FuncId) (fn:Func) (s:ChangeSpec) (c:OpenClaim)=>((c.knobs==[]):Bool)) Tryz.prog 6 Tryz.f6 Rows.receiveRefusesSpec Rows.receiveRefusesRow=true:=by kernel_rfl
theorem BN:(fun (P:Program) (f:FuncId) (fn:Func) (s:ChangeSpec) (c:OpenClaim)=>((P.stopKnobs==[]):Bool)) Tryz.prog 6 Tryz.f6 Rows.receiveRefusesSpec Rows.receiveRefusesRow=true:=by kernel_rfl
theorem BO:(fun (P:Program) (f:FuncId) (fn:Func) (s:ChangeSpec) (c:OpenClaim)=>((c.inPlace==P.inPlace f):Bool)) Tryz.prog 6 Tryz.f6 Rows.receiveRefusesSpec Rows.receiveRefusesRow=true:=by
 show ((Rows.receiveRefusesRow.inPlace==Tryz.prog.inPlace 6):Bool)=true
 unfold Program.inPlace
 rw [jZ]
 kernel_rfl
theorem BP:(fun (P:Program) (f:FuncId) (fn:Func) (s:ChangeSpec) (c:OpenClaim)=>((c.unfollowed==P.unfollowed f):Bool)) Tryz.prog 6 Tryz.f6 Rows.receiveRefusesSpec Rows.receiveRefusesRow=true:=by
 show ((Rows.receiveRefusesRow.unfollowed==Tryz.prog.unfollowed 6):Bool)=true
 unfold Program.unfollowed
 rw [jZ]
 kernel_rfl
theorem BQ:(fun (P:Program) (f:FuncId) (fn:Func) (s:ChangeSpec) (c:OpenClaim)=>((c.recurses==P.recurses f):Bool)) Tryz.prog 6 Tryz.f6 Rows.receiveRefusesSpec Rows.receiveRefusesRow=true:=by
 show ((Rows.receiveRefusesRow.recurses==Tryz.prog.recurses 6):Bool)=true
 unfold Program.recurses Program.unfollowed
 rw [jZ]
 kernel_rfl
theorem BR:(fun (P:Program) (f:FuncId) (fn:Func) (s:ChangeSpec) (c:OpenClaim)=>((c.named==P.varsNamed f):Bool)) Tryz.prog 6 Tryz.f6 Rows.receiveRefusesSpec Rows.receiveRefusesRow=true:=by
 show ((Rows.receiveRefusesRow.named==Tryz.prog.varsNamed 6):Bool)=true
 unfold Program.varsNamed
 rw [jZ]
 kernel_rfl
theorem BS:(fun (P:Program) (f:FuncId) (fn:Func) (s:ChangeSpec) (c:OpenClaim)=>((c.maps==(fn.params.toList++s.plain.varTypes P).any (P.mapsRec ·)):Bool)) Tryz.prog 6 Tryz.f6 Rows.receiveRefusesSpec Rows.receiveRefusesRow=true:=by kernel_rfl
theorem BU:(fun (P:Program) (f:FuncId) (fn:Func) (s:ChangeSpec) (c:OpenClaim)=>((c.ifaces==(fn.params.toList++s.plain.varTypes P).any (P.ifacesRec ·)):Bool)) Tryz.prog 6 Tryz.f6 Rows.receiveRefusesSpec Rows.receiveRefusesRow=true:=by kernel_rfl
theorem BV:(fun (P:Program) (f:FuncId) (fn:Func) (s:ChangeSpec) (c:OpenClaim)=>((c.mapsOut==P.mapsAmong fn.resultTypes.toList):Bool)) Tryz.prog 6 Tryz.f6 Rows.receiveRefusesSpec Rows.receiveRefusesRow=true:=by kernel_rfl
theorem BX:(fun (P:Program) (f:FuncId) (fn:Func) (s:ChangeSpec) (c:OpenClaim)=>((c.loops==(fn.params.toList++s.plain.varTypes P).any (P.loopsFrom ·)):Bool)) Tryz.prog 6 Tryz.f6 Rows.receiveRefusesSpec Rows.receiveRefusesRow=true:=by kernel_rfl
theorem BZ:(fun (P:Program) (f:FuncId) (fn:Func) (s:ChangeSpec) (c:OpenClaim)=>((c.wideKeys==(fn.params.toList++s.plain.varTypes P++fn.resultTypes.toList).any (P.wideKeysFrom ·)):Bool)) Tryz.prog 6 Tryz.f6 Rows.receiveRefusesSpec Rows.receiveRefusesRow=true:=by kernel_rfl
theorem Ca:(fun (P:Program) (f:FuncId) (fn:Func) (s:ChangeSpec) (c:OpenClaim)=>(s.vars.all (P.varReadable ·):Bool)) Tryz.prog 6 Tryz.f6 Rows.receiveRefusesSpec Rows.receiveRefusesRow=true:=by kernel_rfl
theorem Cb:(fun (P:Program) (f:FuncId) (fn:Func) (s:ChangeSpec) (c:OpenClaim)=>(fn.resultTypes.all (fun t=>P.readableRec t&&decide (t<P.types.size)):Bool)) Tryz.prog 6 Tryz.f6 Rows.receiveRefusesSpec Rows.receiveRefusesRow=true:=by kernel_rfl
theorem Cc:(fun (P:Program) (f:FuncId) (fn:Func) (s:ChangeSpec) (c:OpenClaim)=>((c.ifacesOut==fn.resultTypes.toList.any (P.ifacesRec ·)):Bool)) Tryz.prog 6 Tryz.f6 Rows.receiveRefusesSpec Rows.receiveRefusesRow=true:=by kernel_rfl
theorem Ce:(fun (P:Program) (f:FuncId) (fn:Func) (s:ChangeSpec) (c:OpenClaim)=>((c.loopsOut==fn.resultTypes.toList.any (P.loopsFrom ·)):Bool)) Tryz.prog 6 Tryz.f6 Rows.receiveRefusesSpec Rows.receiveRefusesRow=true:=by kernel_rfl
theorem Cf:(fun (P:Program) (f:FuncId) (fn:Func) (s:ChangeSpec) (c:OpenClaim)=>((c.plainKeys==P.plainKeys):Bool)) Tryz.prog 6 Tryz.f6 Rows.receiveRefusesSpec Rows.receiveRefusesRow=true:=by kernel_rfl
theorem Cg:(fun (P:Program) (f:FuncId) (fn:Func) (s:ChangeSpec) (c:OpenClaim)=>(c.shortTexts.isNone:Bool)) Tryz.prog 6 Tryz.f6 Rows.receiveRefusesSpec Rows.receiveRefusesRow=true:=by kernel_rfl
theorem Ch:(fun (P:Program) (f:FuncId) (fn:Func) (s:ChangeSpec) (c:OpenClaim)=>(P.stopsHeard:Bool)) Tryz.prog 6 Tryz.f6 Rows.receiveRefusesSpec Rows.receiveRefusesRow=true:=by kernel_rfl
theorem Ci:(fun (P:Program) (f:FuncId) (fn:Func) (s:ChangeSpec) (c:OpenClaim)=>(P.mayEnter:Bool)) Tryz.prog 6 Tryz.f6 Rows.receiveRefusesSpec Rows.receiveRefusesRow=true:=by kernel_rfl
theorem Cj:(fun (P:Program) (f:FuncId) (fn:Func) (s:ChangeSpec) (c:OpenClaim)=>((c.lifted==P.liftsFinal):Bool)) Tryz.prog 6 Tryz.f6 Rows.receiveRefusesSpec Rows.receiveRefusesRow=true:=by kernel_rfl
theorem Ck:(fun (P:Program) (f:FuncId) (fn:Func) (s:ChangeSpec) (c:OpenClaim)=>((P.make==some c.make):Bool)) Tryz.prog 6 Tryz.f6 Rows.receiveRefusesSpec Rows.receiveRefusesRow=true:=by kernel_rfl
theorem Cm:(fun (P:Program) (f:FuncId) (fn:Func) (s:ChangeSpec) (c:OpenClaim)=>((c.kinds==(if c.domain.isEmpty then [] else fn.params.toList.map fun t=>match P.underlying t with|some (.int k)=>some k|_=>none)):Bool)) Tryz.prog 6 Tryz.f6 Rows.receiveRefusesSpec Rows.receiveRefusesRow=true:=by kernel_rfl
theorem Cn:(fun (P:Program) (f:FuncId) (fn:Func) (s:ChangeSpec) (c:OpenClaim)=>((c.pinned==c.pinnedBy):Bool)) Tryz.prog 6 Tryz.f6 Rows.receiveRefusesSpec Rows.receiveRefusesRow=true:=by kernel_rfl
theorem Co:(fun (P:Program) (f:FuncId) (fn:Func) (s:ChangeSpec) (c:OpenClaim)=>((c.veiled==(fn.params.toList++s.plain.varTypes P++fn.resultTypes.toList).any (P.veiledRec ·)):Bool)) Tryz.prog 6 Tryz.f6 Rows.receiveRefusesSpec Rows.receiveRefusesRow=true:=by kernel_rfl
theorem Cq:(fun (P:Program) (f:FuncId) (fn:Func) (s:ChangeSpec) (c:OpenClaim)=>(c.veiledFits P fn.params.toList (fn.params.toList++s.plain.varTypes P++fn.resultTypes.toList):Bool)) Tryz.prog 6 Tryz.f6 Rows.receiveRefusesSpec Rows.receiveRefusesRow=true:=by kernel_rfl
theorem facts:joinedFacts Tryz.prog 6 Tryz.f6 Rows.receiveRefusesSpec Rows.receiveRefusesRow=true:=Bq _ _ _ _ _ BF BG BH BI BJ BK BL BM BN BO BP BQ BR BS BU BV BX BZ Ca Cb Cc Ce Cf Cg Ch Ci Cj Ck Cm Cn Co Cq
theorem over:Rows.receiveRefusesRow.holds Tryz.pinned (OpenSpec.ofChange Rows.receiveRefusesSpec):=
 OpenClaim.holds_of_wide 6 Tryz.f6 rfl rfl rfl rfl rfl rfl rfl ⟨rfl,rfl,rfl,rfl,rfl⟩ rfl rfl rfl rfl rfl (by kernel_rfl) Tryz.func6 facts
  (of_decide_eq_true (by kernel_rfl)) (by unfold Func.isWrapper;first|(rw [if_pos (by decide+kernel)];kernel_rfl)|(rw [if_neg (by decide+kernel)];exact ⟨rfl,rfl⟩))
  (fun os started H enc _=>lifted os started H enc)
theorem proved:Rows.ReceiveRefusesSaid:=over
#print axioms proved
end Go.Proofs.YtmfankbjapjjiaaGreat.receiveRefuses
