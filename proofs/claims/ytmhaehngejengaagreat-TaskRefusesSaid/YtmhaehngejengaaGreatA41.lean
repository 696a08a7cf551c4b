/-
  TaskRefuses: for every input the law returns true, and its arguments read as they did.
  No condition. (The frame was written by the kit's shell program; the walk is this work's.)
-/
import Derived.Test.YtmhaehngejengaaGreatRows
import Derived.WalkKit
import Derived.ProofKit
import Derived.OpenShut
import Derived.ShutString
import Derived.ChangeOld
import Derived.Below
import Derived.Test.YtmhaehngejengaaGreatA39
import Derived.Test.YtmhaehngejengaaGreatA40
import Derived.Test.YtmhaehngejengaaGreatA04
set_option linter.all false
set_option maxRecDepth 100000
set_option maxHeartbeats 8000000
namespace Go.Proofs.YtmhaehngejengaaGreat.taskRefuses
open Go.ChangeShapes Go.WideShapes Go.ChangeAt Go.RowKit
open Go.ChangeMaps (open_string shut_string)
theorem own:ownKnob Tryz.prog.godebug=none:=by kernel_rfl
theorem laidOut:laidOutB Tryz.prog=true:=by kernel_rfl
def Yf (k:IntKind) (w:World) (a:Option Addr) (len cap:Nat) (zs:List Int):Prop:=
 (a=none∧len=0∧cap=0∧zs=[])∨
 ∃ x,a=some x∧len≤cap∧cap≤maxLen∧zs.length=cap∧(∀ i,i<zs.length→w.cell? (x.add i)=some (.int k (zs.getD i 0)))∧∀ n ∈ zs,(Lit.int k n).wf=true
theorem aqE {w:World} {a:Option Addr} {len cap:Nat} {zs:List Int} (h:Yf .i64 w a len cap zs):∃ l:List Int,Eng.Arg w (.sl 1 (Eng.encI l)) (.slice a len cap):=by
 rcases h with ⟨rfl,rfl,rfl,rfl⟩|⟨x,rfl,hl,_,hz,hc,hw⟩
 ·exact ⟨[],Eng.Arg.nil w 1⟩
 ·exact ⟨zs.take len,Eng.Arg.ints hl hz hc⟩
theorem walk (a0:Int) (a1:Bool) (a2:Option Addr) (Gg cap2:Nat) (z2:List Int) (w:World) (w0:(Lit.int .i64 a0).wf=true) (w2:Yf .i64 w a2 Gg cap2 z2):
 Calls Tryz.prog 6 #[.int .i64 a0,.bool a1,.slice a2 Gg cap2] w fun e w'=>e= .returned (.bool true)∧Below w.heap.size w w':=by
 obtain ⟨l2,hb2⟩:=aqE w2
 refine (Eng.aqz a0 a1 l2 Eng.aqD).said w _ rfl fun i x u h1 h2=> ?_
 match i with
 |0=>
  simp at h1 h2
  subst h1 h2
  exact Eng.Arg.val w _
 |1=>
  simp at h1 h2
  subst h1 h2
  exact Eng.Arg.val w _
 |2=>
  simp at h1 h2
  subst h1 h2
  exact hb2
 |n+3=>simp at h1
set_option maxRecDepth 100000 in
theorem lifted (os:Os) (started:os.Started) (H:Type) (enc:TypeId×Value→H):
 ReturnsInHanded {} Tryz.checked os 6 .any (Rows.taskRefusesSpec.pre6 enc Tryz.prog Tryz.f6 Rows.taskRefusesRow.domain false) (Rows.taskRefusesSpec.post enc Tryz.prog Tryz.f6 false true false false):=by
 refine returnsInHanded_of_change (C:=Tryz.checked) own started (by kernel_rfl) Tryz.func6
  (ChangeSpec.witness6 (enc:=enc) (C:=Tryz.checked) false ⟨#[],#[.int .i64 0,.bool false,.slice none 0 0],[]⟩ 8 (by kernel_rfl) (by kernel_rfl) (by kernel_rfl) (by kernel_rfl)) ?_
 intro W base args ds gs before hval0 hW hcnd _
 have hval:∀ (j:Nat) t v,Tryz.f6.params[j]? =some t→args[j]? =some v→Value.okWide Tryz.prog W .any base t v:=hval0
 have hW':=hW
 obtain ⟨p,q,hA0,hV,rfl,hfz,hnd⟩:=hW
 have hA:DataW.TrodAll enc Tryz.prog W 0 (fun _=>true) true Tryz.f6.params.toList args.toList ds p:=hA0
 rw [Tryz.params6] at hA hval
 obtain ⟨v0,vs0,d0,ds0,p0,q0,hargs,rfl,rfl,h0,r0⟩:=trodAll_cons hA
 obtain ⟨v1,vs1,d1,ds1,p1,q1,rfl,rfl,rfl,h1,r1⟩:=trodAll_cons r0
 obtain ⟨v2,vs2,d2,ds2,p2,q2,rfl,rfl,rfl,h2,r2⟩:=trodAll_cons r1
 obtain ⟨rfl,rfl,rfl⟩:=trodAll_nil r2
 obtain rfl:args= #[v0,v1,v2]:=by cases args;simp_all
 obtain ⟨rfl,rfl⟩:=trodVars_none hV
 obtain ⟨a0,rfl,rfl,rfl,w0⟩:=open_int Tryz.underlying3 (hval 0 3 v0 rfl rfl) h0
 obtain ⟨a1,rfl,rfl,rfl⟩:=open_bool Tryz.underlying4 (hval 1 4 v1 rfl rfl) h1
 obtain ⟨a2,Gg,cap2,rfl⟩:=okWide_slice Tryz.underlying22 (hval 2 22 v2 rfl rfl)
 have k2:=h2
 have lt2:∀ x ∈ p2,x.block<W.heap.size:=by obtain ⟨m,hm⟩:=k2;exact DataW.trod_lt m _ _ _ hm
 obtain ⟨z2,w2⟩:∃ zs,Yf .i64 W a2 Gg cap2 zs:=by
  obtain ⟨fuel,hf⟩:=h2
  rcases open_ints Tryz.underlying22 Tryz.underlying3 (by kernel_rfl) hf with ⟨hcs,_⟩|⟨x,l,c,zs,hcs,_,hl,hm,hz,_,hcell,hwz⟩
  ·simp [Value.cells] at hcs
   obtain ⟨rfl,rfl,rfl⟩:=hcs
   exact ⟨[],.inl ⟨rfl,rfl,rfl,rfl⟩⟩
  ·simp [Value.cells] at hcs
   obtain ⟨rfl,rfl,rfl⟩:=hcs
   exact ⟨zs,.inr ⟨_,rfl,hl,hm,by simpa using hz,hcell,hwz⟩⟩
 clear hA0 hval0
 simp only [List.append_nil,List.nil_append] at hW'
 refine (walk a0 a1 a2 Gg cap2 z2 W w0 w2).mono fun e W' ⟨he,bel⟩=> ?_
 subst he
 exact ⟨_,rfl,_,_,_,[],_,[],hW',trodAll_mk1 (shut_bool Tryz.underlying4 _),(trodAll_cons_mk (shut_int Tryz.underlying3 w0) (trodAll_cons_mk (shut_bool Tryz.underlying4 _) (trodAll_cons_mk (Below.trod laidOut (by kernel_rfl) (of_decide_eq_true (by kernel_rfl)) k2 bel lt2) trodAll_mk0))),rfl,bel.frame _,fun h=>by cases h⟩
theorem iC {a b:Bool} (h1:a=true) (h2:b=true):(a&&b)=true:=by rw [h1,h2];rfl
theorem aqG (P:Program) (f:FuncId) (fn:Func) (s:ChangeSpec) (c:OpenClaim) (h0:(c.wf (OpenSpec.ofChange s):Bool)=true) (h1:(laidOutB P:Bool)=true) (h2:(mapsRowed P:Bool)=true) (h3:(fn.params.all (P.readableRec ·):Bool)=true) (h4:(namedTie P c.named s.vars:Bool)=true) (h5:((c.stops==[]):Bool)=true) (h6:((P.stops==[]):Bool)=true) (h7:((c.knobs==[]):Bool)=true) (h8:((P.stopKnobs==[]):Bool)=true) (h9:((c.inPlace==P.inPlace f):Bool)=true) (h10:((c.unfollowed==P.unfollowed f):Bool)=true) (h11:((c.recurses==P.recurses f):Bool)=true) (h12:((c.named==P.varsNamed f):Bool)=true) (h13:((c.maps==(fn.params.toList++s.plain.varTypes P).any (P.mapsRec ·)):Bool)=true) (h14:((c.ifaces==(fn.params.toList++s.plain.varTypes P).any (P.ifacesRec ·)):Bool)=true) (h15:((c.mapsOut==P.mapsAmong fn.resultTypes.toList):Bool)=true) (h16:((c.loops==(fn.params.toList++s.plain.varTypes P).any (P.loopsFrom ·)):Bool)=true) (h17:((c.wideKeys==(fn.params.toList++s.plain.varTypes P++fn.resultTypes.toList).any (P.wideKeysFrom ·)):Bool)=true) (h18:(s.vars.all (P.varReadable ·):Bool)=true) (h19:(fn.resultTypes.all (fun t=>P.readableRec t&&decide (t<P.types.size)):Bool)=true) (h20:((c.ifacesOut==fn.resultTypes.toList.any (P.ifacesRec ·)):Bool)=true) (h21:((c.loopsOut==fn.resultTypes.toList.any (P.loopsFrom ·)):Bool)=true) (h22:((c.plainKeys==P.plainKeys):Bool)=true) (h23:(c.shortTexts.isNone:Bool)=true) (h24:(P.stopsHeard:Bool)=true) (h25:(P.mayEnter:Bool)=true) (h26:((c.lifted==P.liftsFinal):Bool)=true) (h27:((P.make==some c.make):Bool)=true) (h28:((c.kinds==(if c.domain.isEmpty then [] else fn.params.toList.map fun t=>match P.underlying t with|some (.int k)=>some k|_=>none)):Bool)=true) (h29:((c.pinned==c.pinnedBy):Bool)=true) (h30:((c.veiled==(fn.params.toList++s.plain.varTypes P++fn.resultTypes.toList).any (P.veiledRec ·)):Bool)=true) (h31:(c.veiledFits P fn.params.toList (fn.params.toList++s.plain.varTypes P++fn.resultTypes.toList):Bool)=true):joinedFacts P f fn s c=true:=
 (iC (iC (iC (iC (iC (iC (iC (iC (iC (iC (iC (iC (iC (iC (iC (iC (iC (iC (iC (iC (iC (iC (iC (iC (iC (iC (iC (iC (iC (iC (iC h0 h1) h2) h3) h4) h5) h6) h7) h8) h9) h10) h11) h12) h13) h14) h15) h16) h17) h18) h19) h20) h21) h22) h23) h24) h25) h26) h27) h28) h29) h30) h31)
def reached:List FuncId:=[6,7,8,18,47,48,94,19,49,50,95,96,97,17,20,51,98,99,100,186,101,187,102,46,90,91,111,199,277,278,341,342,343,344,198,345,347,273,338,346,348,351,406,418,417,354,419,479,349,407,476,510,535,550,551,552,536,492,511,512,361,425,537,538,553,513,539,540,514,515,541,489,501,78,148,477,542,481,523,520,77,147,149,150,244,79,440,495,527,496,493,526,548,516,543,544,517,545,546,554,421,497,484,490,485,350,408,359,369,435,409,410,411,412,414,413,415,478,518,519,279,352,416,353,355,420,447,499,500,529,547,151,245,555,530,483,525,480,487,521,522,498,528,41,80,356,185,274,280,184,271,272,357,358,360,422,482,524,423,486,424,488,281,282,362,363,364,426,283,365,366,427,428,429,430,284,367,368,431,434,432,491,433,285,370,436,439,437,494,438,286,371,441,444,442,443,287,372,445,446,288,373,449,448,450,92,183,93,57,44,89,182,15,43,11,27,28,29,59,40,75,76,30,60,112,113,200,114,201,115,202,62,116,117,203,61,31,52,54,103,188,190,189,192,104,193,191,36,65,124,66,32,37,67,125,208,292,374,451,298,452,299,293,375,209,294,236,313,210,126,211,212,213,295,214,296,297,215,127,216,217,218,128,219,129,220,275,335,207,291,337,221,205,230,242,231,235,310,311,381,455,382,383,378,456,384,315,318,389,388,312,385,459,206,289,290,136,204,74,146,243,130,222,300,301,302,376,453,454,502,531,303,377,223,131,73,145,224,304,134,142,133,195,228,306,137,334,63,68,118,119,120,64,122,121,123,197,196,276,340,339,305,135,226,139,229,144,240,232,307,241,39,81,152,153,154,53,246,156,155,247,319,320,71,141,143,237,314,387,468,469,386,460,461,503,462,504,505,463,506,507,532,464,465,466,467,238,239,316,317,140,234,308,379,457,458,309,380,390,395,470,471,138,233,508,474,473,509,533,534,549,556,248,321,391,392,82,157,158,249,159,250,322,323,160,161,251,252,324,393,472,325,394,326,396,253,83,162,84,163,164,254,255,327,397,328,165,256,329,166,257,9,21,22,23,55,105,106,194,107,108,109,56,85,167,168,169,258,259,260,330,170,86,171,172,173,261,262,331,398,333,399,401,225,403,402,475,400,263,174,87,175,176,177,264,265,332,404,266,267,178,13,34,35,38,69,132,227,70,72,88,179,180,181,269,268,270,336,405,16,24,25,58,110,45]
theorem fuel:(Tryz.prog.funcs.toList.map fun g=>(Tryz.prog.leadsTo g).length+1).sum=1885:=by kernel_rfl
theorem reach:Tryz.prog.closureVia 1886 [6] []=reached:=by kernel_rfl
theorem clo:Tryz.prog.closure 6=reached:=by
 unfold Program.closure
 rw [fuel]
 exact reach
theorem aqM:(fun (P:Program) (f:FuncId) (fn:Func) (s:ChangeSpec) (c:OpenClaim)=>(c.wf (OpenSpec.ofChange s):Bool)) Tryz.prog 6 Tryz.f6 Rows.taskRefusesSpec Rows.taskRefusesRow=true:=by kernel_rfl
theorem aqN:(fun (P:Program) (f:FuncId) (fn:Func) (s:ChangeSpec) (c:OpenClaim)=>(laidOutB P:Bool)) Tryz.prog 6 Tryz.f6 Rows.taskRefusesSpec Rows.taskRefusesRow=true:=by kernel_rfl
theorem aqO:(fun (P:Program) (f:FuncId) (fn:Func) (s:ChangeSpec) (c:OpenClaim)=>(mapsRowed P:Bool)) Tryz.prog 6 Tryz.f6 Rows.taskRefusesSpec Rows.taskRefusesRow=true:=by kernel_rfl
theorem aqP:(fun (P:Program) (f:FuncId) (fn:Func) (s:ChangeSpec) (c:OpenClaim)=>(fn.params.all (P.readableRec ·):Bool)) Tryz.prog 6 Tryz.f6 Rows.taskRefusesSpec Rows.taskRefusesRow=true:=by kernel_rfl
theorem aqQ:(fun (P:Program) (f:FuncId) (fn:Func) (s:ChangeSpec) (c:OpenClaim)=>(namedTie P c.named s.vars:Bool)) Tryz.prog 6 Tryz.f6 Rows.taskRefusesSpec Rows.taskRefusesRow=true:=by kernel_rfl
theorem aqR:(fun (P:Program) (f:FuncId) (fn:Func) (s:ChangeSpec) (c:OpenClaim)=>((c.stops==[]):Bool)) Tryz.prog 6 Tryz.f6 Rows.taskRefusesSpec Rows.taskRefusesRow=true:=by kernel_rfl
theorem aqS:(fun (P:Program) (f:FuncId) (fn:Func) (s:ChangeSpec) (c:OpenClaim)=>((P.stops==[]):Bool)) Tryz.prog 6 Tryz.f6 Rows.taskRefusesSpec Rows.taskRefusesRow=true:=by kernel_rfl
theorem aqT:(fun (P:Program) (f:FuncId) (fn:Func) (s:ChangeSpec) (c:OpenClaim)=>((c.knobs==[]):Bool)) Tryz.prog 6 Tryz.f6 Rows.taskRefusesSpec Rows.taskRefusesRow=true:=by kernel_rfl
theorem aqU:(fun (P:Program) (f:FuncId) (fn:Func) (s:ChangeSpec) (c:OpenClaim)=>((P.stopKnobs==[]):Bool)) Tryz.prog 6 Tryz.f6 Rows.taskRefusesSpec Rows.taskRefusesRow=true:=by kernel_rfl
theorem aqV:(fun (P:Program) (f:FuncId) (fn:Func) (s:ChangeSpec) (c:OpenClaim)=>((c.inPlace==P.inPlace f):Bool)) Tryz.prog 6 Tryz.f6 Rows.taskRefusesSpec Rows.taskRefusesRow=true:=by
 show ((Rows.taskRefusesRow.inPlace==Tryz.prog.inPlace 6):Bool)=true
 unfold Program.inPlace
 rw [clo]
 kernel_rfl
theorem aqW:(fun (P:Program) (f:FuncId) (fn:Func) (s:ChangeSpec) (c:OpenClaim)=>((c.unfollowed==P.unfollowed f):Bool)) Tryz.prog 6 Tryz.f6 Rows.taskRefusesSpec Rows.taskRefusesRow=true:=by
 show ((Rows.taskRefusesRow.unfollowed==Tryz.prog.unfollowed 6):Bool)=true
 unfold Program.unfollowed
 rw [clo]
 kernel_rfl
theorem aqX:(fun (P:Program) (f:FuncId) (fn:Func) (s:ChangeSpec) (c:OpenClaim)=>((c.recurses==P.recurses f):Bool)) Tryz.prog 6 Tryz.f6 Rows.taskRefusesSpec Rows.taskRefusesRow=true:=by
 show ((Rows.taskRefusesRow.recurses==Tryz.prog.recurses 6):Bool)=true
 unfold Program.recurses Program.unfollowed
 rw [clo]
 kernel_rfl
theorem aqY:(fun (P:Program) (f:FuncId) (fn:Func) (s:ChangeSpec) (c:OpenClaim)=>((c.named==P.varsNamed f):Bool)) Tryz.prog 6 Tryz.f6 Rows.taskRefusesSpec Rows.taskRefusesRow=true:=by
 show ((Rows.taskRefusesRow.named==Tryz.prog.varsNamed 6):Bool)=true
 unfold Program.varsNamed
 rw [clo]
 kernel_rfl
theorem aqZ:(fun (P:Program) (f:FuncId) (fn:Func) (s:ChangeSpec) (c:OpenClaim)=>((c.maps==(fn.params.toList++s.plain.varTypes P).any (P.mapsRec ·)):Bool)) Tryz.prog 6 Tryz.f6 Rows.taskRefusesSpec Rows.taskRefusesRow=true:=by kernel_rfl
theorem aq0:(fun (P:Program) (f:FuncId) (fn:Func) (s:ChangeSpec) (c:OpenClaim)=>((c.ifaces==(fn.params.toList++s.plain.varTypes P).any (P.ifacesRec ·)):Bool)) Tryz.prog 6 Tryz.f6 Rows.taskRefusesSpec Rows.taskRefusesRow=true:=by kernel_rfl
theorem aq1:(fun (P:Program) (f:FuncId) (fn:Func) (s:ChangeSpec) (c:OpenClaim)=>((c.mapsOut==P.mapsAmong fn.resultTypes.toList):Bool)) Tryz.prog 6 Tryz.f6 Rows.taskRefusesSpec Rows.taskRefusesRow=true:=by kernel_rfl
theorem aq2:(fun (P:Program) (f:FuncId) (fn:Func) (s:ChangeSpec) (c:OpenClaim)=>((c.loops==(fn.params.toList++s.plain.varTypes P).any (P.loopsFrom ·)):Bool)) Tryz.prog 6 Tryz.f6 Rows.taskRefusesSpec Rows.taskRefusesRow=true:=by kernel_rfl
theorem aq3:(fun (P:Program) (f:FuncId) (fn:Func) (s:ChangeSpec) (c:OpenClaim)=>((c.wideKeys==(fn.params.toList++s.plain.varTypes P++fn.resultTypes.toList).any (P.wideKeysFrom ·)):Bool)) Tryz.prog 6 Tryz.f6 Rows.taskRefusesSpec Rows.taskRefusesRow=true:=by kernel_rfl
theorem aq4:(fun (P:Program) (f:FuncId) (fn:Func) (s:ChangeSpec) (c:OpenClaim)=>(s.vars.all (P.varReadable ·):Bool)) Tryz.prog 6 Tryz.f6 Rows.taskRefusesSpec Rows.taskRefusesRow=true:=by kernel_rfl
theorem aq5:(fun (P:Program) (f:FuncId) (fn:Func) (s:ChangeSpec) (c:OpenClaim)=>(fn.resultTypes.all (fun t=>P.readableRec t&&decide (t<P.types.size)):Bool)) Tryz.prog 6 Tryz.f6 Rows.taskRefusesSpec Rows.taskRefusesRow=true:=by kernel_rfl
theorem aq6:(fun (P:Program) (f:FuncId) (fn:Func) (s:ChangeSpec) (c:OpenClaim)=>((c.ifacesOut==fn.resultTypes.toList.any (P.ifacesRec ·)):Bool)) Tryz.prog 6 Tryz.f6 Rows.taskRefusesSpec Rows.taskRefusesRow=true:=by kernel_rfl
theorem aq7:(fun (P:Program) (f:FuncId) (fn:Func) (s:ChangeSpec) (c:OpenClaim)=>((c.loopsOut==fn.resultTypes.toList.any (P.loopsFrom ·)):Bool)) Tryz.prog 6 Tryz.f6 Rows.taskRefusesSpec Rows.taskRefusesRow=true:=by kernel_rfl
theorem aq8:(fun (P:Program) (f:FuncId) (fn:Func) (s:ChangeSpec) (c:OpenClaim)=>((c.plainKeys==P.plainKeys):Bool)) Tryz.prog 6 Tryz.f6 Rows.taskRefusesSpec Rows.taskRefusesRow=true:=by kernel_rfl
theorem aq9:(fun (P:Program) (f:FuncId) (fn:Func) (s:ChangeSpec) (c:OpenClaim)=>(c.shortTexts.isNone:Bool)) Tryz.prog 6 Tryz.f6 Rows.taskRefusesSpec Rows.taskRefusesRow=true:=by kernel_rfl
theorem ara:(fun (P:Program) (f:FuncId) (fn:Func) (s:ChangeSpec) (c:OpenClaim)=>(P.stopsHeard:Bool)) Tryz.prog 6 Tryz.f6 Rows.taskRefusesSpec Rows.taskRefusesRow=true:=by kernel_rfl
theorem arb:(fun (P:Program) (f:FuncId) (fn:Func) (s:ChangeSpec) (c:OpenClaim)=>(P.mayEnter:Bool)) Tryz.prog 6 Tryz.f6 Rows.taskRefusesSpec Rows.taskRefusesRow=true:=by kernel_rfl
theorem ard:(fun (P:Program) (f:FuncId) (fn:Func) (s:ChangeSpec) (c:OpenClaim)=>((c.lifted==P.liftsFinal):Bool)) Tryz.prog 6 Tryz.f6 Rows.taskRefusesSpec Rows.taskRefusesRow=true:=by kernel_rfl
theorem arf:(fun (P:Program) (f:FuncId) (fn:Func) (s:ChangeSpec) (c:OpenClaim)=>((P.make==some c.make):Bool)) Tryz.prog 6 Tryz.f6 Rows.taskRefusesSpec Rows.taskRefusesRow=true:=by kernel_rfl
theorem arh:(fun (P:Program) (f:FuncId) (fn:Func) (s:ChangeSpec) (c:OpenClaim)=>((c.kinds==(if c.domain.isEmpty then [] else fn.params.toList.map fun t=>match P.underlying t with|some (.int k)=>some k|_=>none)):Bool)) Tryz.prog 6 Tryz.f6 Rows.taskRefusesSpec Rows.taskRefusesRow=true:=by kernel_rfl
theorem ari:(fun (P:Program) (f:FuncId) (fn:Func) (s:ChangeSpec) (c:OpenClaim)=>((c.pinned==c.pinnedBy):Bool)) Tryz.prog 6 Tryz.f6 Rows.taskRefusesSpec Rows.taskRefusesRow=true:=by kernel_rfl
theorem arj:(fun (P:Program) (f:FuncId) (fn:Func) (s:ChangeSpec) (c:OpenClaim)=>((c.veiled==(fn.params.toList++s.plain.varTypes P++fn.resultTypes.toList).any (P.veiledRec ·)):Bool)) Tryz.prog 6 Tryz.f6 Rows.taskRefusesSpec Rows.taskRefusesRow=true:=by kernel_rfl
theorem ark:(fun (P:Program) (f:FuncId) (fn:Func) (s:ChangeSpec) (c:OpenClaim)=>(c.veiledFits P fn.params.toList (fn.params.toList++s.plain.varTypes P++fn.resultTypes.toList):Bool)) Tryz.prog 6 Tryz.f6 Rows.taskRefusesSpec Rows.taskRefusesRow=true:=by kernel_rfl
theorem facts:joinedFacts Tryz.prog 6 Tryz.f6 Rows.taskRefusesSpec Rows.taskRefusesRow=true:=aqG _ _ _ _ _ aqM aqN aqO aqP aqQ aqR aqS aqT aqU aqV aqW aqX aqY aqZ aq0 aq1 aq2 aq3 aq4 aq5 aq6 aq7 aq8 aq9 ara arb ard arf arh ari arj ark
theorem over:Rows.taskRefusesRow.holds Tryz.pinned (OpenSpec.ofChange Rows.taskRefusesSpec):=
 OpenClaim.holds_of_wide 6 Tryz.f6 rfl rfl rfl rfl rfl rfl rfl ⟨rfl,rfl,rfl,rfl,rfl⟩ rfl rfl rfl rfl rfl (by kernel_rfl) Tryz.func6 facts
  (of_decide_eq_true (by kernel_rfl)) (by unfold Func.isWrapper;first|(rw [if_pos (by decide+kernel)];kernel_rfl)|(rw [if_neg (by decide+kernel)];exact ⟨rfl,rfl⟩))
  (fun os started H enc _=>lifted os started H enc)
theorem proved:Rows.TaskRefusesSaid:=over
#print axioms proved
end Go.Proofs.YtmhaehngejengaaGreat.taskRefuses
