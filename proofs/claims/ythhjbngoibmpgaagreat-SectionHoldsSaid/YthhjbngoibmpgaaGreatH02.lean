/-
  Part of a proof: lemmas and definitions of this work.
  No condition.
-/
import Derived.Test.YthhjbngoibmpgaaGreatH01
import Derived.Test.YthhjbngoibmpgaaGreatH00
import Derived.WalkSpells
import Derived.Orders
set_option linter.all false
set_option maxRecDepth 100000
set_option maxHeartbeats 8000000
namespace Go.Eng
open Go
section
variable {P:Program} {C:Ctx} {ρ:Nat->Loc} {U:Nat->Prop} {h:List (Nat×Ob)} {w:World} {nm:Nat} {t:List (Nat×AV)} {a:Act} {o:Oper} {e:E}
theorem JY:∀ (xs:List (List AV)) (l:List UInt8),uq xs=some l->∃ ns:List Int,xs=ns.map (fun n=>[.v (.int .u8 n)])/\l=ns.map fun n=>n.toNat.toUInt8
 |[],l,hl=>by simp only [uq,Option.some.injEq] at hl;subst hl;exact ⟨[],rfl,rfl⟩
 |x::xs,l,hl=>by
  unfold uq at hl
  split at hl
  ·rename_i e;cases e
  ·rename_i n l' e
   simp only [List.cons.injEq] at e
   obtain ⟨rfl,rfl⟩:=e
   split at hl
   ·rename_i r hr
    simp only [Option.some.injEq] at hl;subst hl
    obtain ⟨ns,h1,h2⟩:=JY _ r hr
    exact ⟨n::ns,by simp [h1],by simp [h2]⟩
   ·cases hl
  ·cases hl
theorem foldl_push:∀ (ns:List Int) (s:ByteArray),ns.foldl (fun r n=>r.push (UInt8.ofNat n.toNat)) s=⟨(s.data.toList++ns.map fun n=>n.toNat.toUInt8).toArray⟩
 |[],s=>by simp
 |n::ns,s=>by
  rw [List.foldl_cons,foldl_push ns]
  simp [ByteArray.push]
theorem Sg (hr:HR C ρ U h w) (ht:Tm C ρ U w t a) {src dst el:TypeId} {x:Operand} (h1:P.underlying src=some (.slice el)) (h2:P.underlying el=some (.int .u8)) (h3:P.underlying dst=some .string)
 (ho:o.op= .convert src dst x) (he:ax nm t h (.jO x)=some e) (hp:e.pre):Run C ρ U h w nm ((execOp a.eval o).run P w) e:=by
 simp only [ax] at he
 split at he
 ·rename_i p xs hc
  split at he
  ·rename_i s hs
   simp only [Option.some.injEq] at he;subst he
   cases hx:ev t x with
   |none=>rw [hx] at hc;simp [iP] at hc
   |some y=>
    rw [hx] at hc
    obtain ⟨vals,hR⟩:=wI hr (Nat.zero_lt_one) (aP ht hx) hc hp
    unfold bytesOf at hs
    split at hs
    ·rename_i l hl
     simp only [Option.some.injEq] at hs;subst hs
     obtain ⟨ns,hxs,hln⟩:=JY _ _ hl
     have Si:vals=ns.map (Value.int .u8):=by
      apply List.ext_getElem?
      intro k
      have hlen:vals.length=ns.length:=by rw [hR.len,hxs];simp
      by_cases hk:k<ns.length
      ·have hxk:xs[k]? =some [.v (.int .u8 ns[k])]:=by rw [hxs];simp [hk]
       obtain ⟨v,hv,hvp⟩:=hR.rel k _ 0 (.v (.int .u8 ns[k])) hxk rfl
       cases hvp
       simp only [Nat.mul_one,Nat.add_zero] at hv
       rw [hv]
       simp [hk]
      ·rw [List.getElem?_eq_none (by omega),List.getElem?_eq_none (by simp;omega)]
     obtain ⟨ad,cap,hxe,hnil,hcell⟩:=hR.form
     have hrun:(convert src dst (a.eval x)).run P w= .ok (.string ⟨l.toArray⟩) w:=by
      rw [hxe,run_convert_bytes_string w src dst el ad xs.length cap h1 h2 h3]
      cases ad with
      |none=>
       have:=hnil rfl
       rw [this] at hxs
       have hns:ns=[]:=by cases ns with|nil=>rfl|cons _ _=>simp at hxs
       subst hns
       rw [hln]
       simp [Conv.bytesToString]
       rfl
      |some A=>
       have hl':=run_loadCells_list (P:=P) w A vals (fun j v hj=>hcell A rfl j v hj)
       rw [hR.len,Nat.mul_one] at hl'
       rw [Si] at hl'
       rw [run_bytesToString w A xs.length cap ns hl',foldl_push,hln]
       simp
     simp only [execOp,ho,Sem.run_bind,hrun,Result.andThen_ok,Sem.run_pure]
     exact .same hr (.p (.v _)) _
    ·cases hs
  ·cases he
 ·cases he
theorem JZ (hr:HR C ρ U h w) (ht:Tm C ρ U w t a) {c:Call} {mx:Bool} (hc:c.callee= .builtin (if mx then .max else .min)) (ho:o.op= .call c) (he:ax nm t h (.lK mx c.args.toList)=some e):
 Run C ρ U h w nm ((execOp a.eval o).run P w) e:=by
 simp only [ax] at he
 split at he
 ·rename_i k x k' y hxs
  split at he
  ·rename_i hk
   subst hk
   simp only [E.ok,Option.some.injEq] at he;subst he
   have hv:=uE ht hxs
   have hl:(c.args.toList.map a.eval).length=2:=by have:=hv.1;simpa using this.symm
   have e2:∃ u v,c.args.toList.map a.eval=[u,v]:=by
    match c.args.toList.map a.eval,hl with
    |[u,v],_=>exact ⟨u,v,rfl⟩
   obtain ⟨u,v,e3⟩:=e2
   have eu:u= .int k x:=(hv.2 0 _ u rfl (by rw [e3];rfl)).bR
   have ev':v= .int k y:=(hv.2 1 _ v rfl (by rw [e3];rfl)).bR
   subst eu;subst ev'
   have e4:(c.args.map a.eval).toList=[.int k x,.int k y]:=by rw [<-e3];simp
   cases mx
   ·simp only [Bool.false_eq_true,if_false] at hc ⊢
    have hrun:(execOp a.eval o).run P w= .ok (.value (.int k (if y<x then y else x))) w:=by
     simp only [execOp,ho,resolve,hc,invoke,builtin,Sem.run_bind,Sem.run_pure,Result.andThen_ok,Builtin.min_,e4]
     simp [Builtin.min2]
    rw [hrun,show (min x y)=(if y<x then y else x) from by rw [Int.min_def];split<;>split<;>omega]
    exact .same hr (.p (.v _)) True
   ·simp only [if_true] at hc ⊢
    have hrun:(execOp a.eval o).run P w= .ok (.value (.int k (if y>x then y else x))) w:=by
     simp only [execOp,ho,resolve,hc,invoke,builtin,Sem.run_bind,Sem.run_pure,Result.andThen_ok,Builtin.max_,e4]
     simp [Builtin.max2]
    rw [hrun,show (max x y)=(if y>x then y else x) from by rw [Int.max_def];split<;>split<;>omega]
    exact .same hr (.p (.v _)) True
  ·cases he
 ·cases he
theorem Sj (hr:HR C ρ U h w) (ht:Tm C ρ U w t a) {ty el:TypeId} {x:Operand} {c:Call} (h1:P.underlying ty=some (.slice el))
 (hc:c.callee= .builtin .cap) (h2:c.argTypes[0]? =some ty) (h3:c.args[0]? =some x) (ho:o.op= .call c) (he:ax nm t h (.cap x)=some e):
 Run C ρ U h w nm ((execOp a.eval o).run P w) e:=by
 simp only [ax] at he
 split at he
 ·rename_i n q hx
  have hv:=(aP ht hx).bR
  simp only [E.ok,Option.some.injEq] at he;subst he
  have h4:(c.args.map a.eval)[0]? =some (a.eval x):=by simp [h3]
  have hrun:(Builtin.cap_ c.argTypes o.type (c.args.map a.eval)).run P w= .ok (.int .i64 q) w:=by
   simp [Builtin.cap_,h2,h3,hv,run_underlying h1,goInt]
  simp only [execOp,ho,resolve,hc,invoke,builtin,Sem.run_bind,Sem.run_pure,Result.andThen_ok,hrun]
  exact .same hr (.p (.v _)) True
 ·cases he
theorem zx {z:Array Value} {sz n k j:Nat} (hz:z.size=sz) (hk:k<n) (hj:j<sz):(Builtin.zeroCells z n)[k*sz+j]? =z.toList[j]? :=by
 have:=zu hz hk hj
 unfold Builtin.zeroCells
 unfold madeCells at this
 rw [hz]
 rw [hz] at this
 exact this
theorem Sk (hr:HR C ρ U h w) (ht:Tm C ρ U w t a) (hn:¬ U nm) {ty ti el sz bW:Nat} {q:IntKind} {zs:List Value} {s x:Operand} {c:Call} (hE:El P ty el sz bW zs) (hone:zs.all Value.oneCell'=true) (hti:P.underlying ti=some (.int q))
 (hc:c.callee= .builtin .append) (h2:c.argTypes= #[ty,ti]) (h3:c.args= #[s,x]) (ho:o.op= .call c) (he:ax nm t h (.kC el sz bW zs s x)=some e) (hp:e.pre):
 Run C ρ U h w nm ((execOp a.eval o).run P w) e:=by
 obtain ⟨i,z,hi,hiz,his,hib,hzc,hzl⟩:=hE.info
 have hsz:=hE.pos
 simp only [ax] at he
 split at he
 ·rename_i k n hs hx
  have e1:=(aP ht hs).bR
  have e2:=(aP ht hx).bR
  simp only [Option.some.injEq] at he;subst he
  obtain ⟨h0,hb,h63⟩:=hp
  have hnn:(n.toNat:Int)=n:=by omega
  have hbn:n.toNat*bW<=140737488355328:=by
   have:((n.toNat*bW:Nat):Int)<=140737488355328:=by rw [Int.natCast_mul,hnn];exact hb
   omega
  have hcapge:=grownCap_ge w n.toNat 0 el
  have hw:IntKind.i64.wrap n=n:=by rw [IntKind.wrap_i64];omega
  have c1:¬ n<0:=by omega
  have c2:¬ (281474976710656<n*(bW:Int)):=by omega
  have c3:¬ n.toNat=0:=by omega
  have c3':¬ n<=0:=by omega
  have c4:¬ (9223372036854775807<max n 0):=by omega
  have c5:¬ (281474976710656<Builtin.nextslicecap n.toNat 0*bW):=by rw [nextslicecap_zero (by omega)];omega
  have c6:¬ (n.toNat*sz=0):=by
   have:=Nat.mul_pos (show 0<n.toNat by omega) hsz
   omega
  have hrun:(Builtin.append_ #[ty,ti] o.type #[a.eval s,a.eval x]).run P w=
   .ok (.slice (some ⟨w.heap.size,0,none⟩) n.toNat (grownCap w n.toNat 0 el)) (w.drew.alloc (.cells (Builtin.zeroCells z.cells n.toNat++Builtin.zeroCells z.cells (grownCap w n.toNat 0 el - n.toNat)) el)):=by
   rw [e1,e2]
   simp [Builtin.append_,run_underlying hE.und,run_underlying hti,sizeOf,typeInfo,zeroValue,hi,hiz,asInt,asIntOf,hw,c1,c2,c3',c4,c5,c6,his,hib,Question.forced,run_firstCells_none,newRow,grownCap]
  have hm:Moved C ρ U h w nm (.at w.heap.size 0 (grownCap w n.toNat 0 el*sz)) (w.drew.alloc (.cells (Builtin.zeroCells z.cells n.toNat++Builtin.zeroCells z.cells (grownCap w n.toNat 0 el - n.toNat)) el)):=
   ⟨rfl,rfl,rfl,by simp,fun g hg _=>Go.RowKit.Below.heap_alloc w.drew _ g hg,.inr (.inr ⟨hn,.inr ⟨w.heap.size,0,_,rfl,Nat.le_refl _,by simp⟩⟩)⟩
  have hz:=zq (w:=w.drew.alloc (.cells (Builtin.zeroCells z.cells n.toNat++Builtin.zeroCells z.cells (grownCap w n.toNat 0 el - n.toNat)) el)) (ok:=ay C (up ρ nm (.at w.heap.size 0 (grownCap w n.toNat 0 el*sz))) (w.drew.alloc (.cells (Builtin.zeroCells z.cells n.toNat++Builtin.zeroCells z.cells (grownCap w n.toNat 0 el - n.toNat)) el)))
   (n:=n.toNat) (cells:=Builtin.zeroCells z.cells n.toNat) hE.zl hone (fun k j hk hj=>by rw [zx hzc hk hj,hzl])
  have hnew:=uK (w':=w.drew.alloc (.cells (Builtin.zeroCells z.cells n.toNat++Builtin.zeroCells z.cells (grownCap w n.toNat 0 el - n.toNat)) el)) (ok:=ay C (up ρ nm (.at w.heap.size 0 (grownCap w n.toNat 0 el*sz))) (w.drew.alloc (.cells (Builtin.zeroCells z.cells n.toNat++Builtin.zeroCells z.cells (grownCap w n.toNat 0 el - n.toNat)) el)))
   (ρ':=up ρ nm (.at w.heap.size 0 (grownCap w n.toNat 0 el*sz))) (U':=fq U nm) (el:=el) (sz:=sz) (g:=w.heap.size) (m:=n.toNat) (cap:=grownCap w n.toNat 0 el) (xs:=List.replicate n.toNat (zs.map AV.v)) (vals:=(Builtin.zeroCells z.cells n.toNat).toList) (rest:=(Builtin.zeroCells z.cells (grownCap w n.toNat 0 el - n.toNat)).toList)
   (by rw [show ((Builtin.zeroCells z.cells n.toNat).toList++(Builtin.zeroCells z.cells (grownCap w n.toNat 0 el - n.toNat)).toList).toArray=Builtin.zeroCells z.cells n.toNat++Builtin.zeroCells z.cells (grownCap w n.toNat 0 el - n.toNat) from by apply Array.ext';simp];exact heap_alloc_new w.drew _)
   (by rw [ql,hzc];simp) (fun k x hk=>by
    rw [List.getElem?_replicate] at hk
    split at hk
    ·cases hk;simp [hE.zl]
    ·cases hk)
   (fun v hv=>by
    obtain ⟨j,hj,rfl⟩:=List.mem_iff_getElem.1 hv
    have hj':j<n.toNat*sz:=by rw [<-hzc,<-ql];exact hj
    have d1:j / sz<n.toNat:=Nat.div_lt_of_lt_mul (by rw [Nat.mul_comm];exact hj')
    have d2:j % sz<sz:=Nat.mod_lt _ hsz
    have hg:=zx hzc d1 d2
    rw [show j / sz*sz+j % sz=j from by rw [Nat.mul_comm];exact Nat.div_add_mod j sz,hzl] at hg
    rw [<-Array.getElem?_toList,List.getElem?_eq_getElem hj] at hg
    exact List.all_eq_true.1 hone _ (List.mem_iff_getElem?.2 ⟨_,hg.symm⟩))
   (fun k x j c hk hj=>(hz k x j c hk hj).imp fun v hv=>⟨by rw [Array.getElem?_toList];exact hv.1,hv.2.2⟩)
   (by rw [List.length_append,ql,ql,hzc,<-Nat.add_mul];congr 1;omega) (by simp) hcapge
  refine Run.moved (v:= .slice (some ⟨w.heap.size,0,none⟩) n.toNat (grownCap w n.toNat 0 el)) hr hm (fun ⟨cs,hcs⟩=>absurd (hr.hp _ _ hcs).1 hn) hnew.1 (.inl ?_) (.own (.inr rfl) ?_) (.inr rfl) _
  ·simp only [execOp,ho,resolve,hc,h2,h3,invoke,builtin,Sem.run_bind,Sem.run_pure,Result.andThen_ok,List.map_toArray,List.map_cons,List.map_nil,hrun]
  ·simp only [up,if_true]
   exact hnew.2
 ·cases he
theorem Sl (hr:HR C ρ U h w) (ht:Tm C ρ U w t a) {ty el sz:Nat} {zs:List Value} {x:Operand} {c:Call} (hu:P.underlying ty=some (.slice el)) (hz:cO P el=some zs) (hs:aU P el=some sz)
 (hzl:zs.length=sz) (hone:zs.all Value.oneCell'=true)
 (hc:c.callee= .builtin .clear) (h2:c.argTypes[0]? =some ty) (h3:c.args[0]? =some x) (ho:o.op= .call c) (he:ax nm t h (.kD sz zs x)=some e) (hp:e.pre):
 Run C ρ U h w nm ((execOp a.eval o).run P w) e:=by
 obtain ⟨i,z,hi,hiz,hzz⟩:=zo hz
 have hzc:z.cells.size=sz:=by rw [<-Array.length_toList,hzz];exact hzl
 have gF:∀ v w',(Builtin.clear_ c.argTypes o.type (c.args.map a.eval)).run P w= .ok v w'->(execOp a.eval o).run P w= .ok (.value v) w':=by
  intro v w' hv
  simp only [execOp,ho,resolve,hc,invoke,builtin,Sem.run_bind,Sem.run_pure,Result.andThen_ok,hv]
 have h4:(c.args.map a.eval)[0]? =some (a.eval x):=by simp [h3]
 simp only [ax] at he
 split at he
 ·rename_i b sz' off len hx
  split at he
  ·rename_i ety s2 xs hb
   split at he
   ·rename_i hss
    obtain ⟨e1,e2⟩:=hss
    subst e1;subst e2
    simp only [Option.some.injEq] at he;subst he
    obtain ⟨hub,_,hown⟩:=(aP ht hx).mF
    have hrow:=(hr.hp b _ hb).2
    have nothing:len=0->∀ ad cap,a.eval x= .slice ad 0 cap->∀ p,Run C ρ U h w nm ((execOp a.eval o).run P w) ⟨p,.v undef,[(b,.row ety sz (xs.take off++(List.replicate len (zs.map AV.v)++xs.drop (off+len))))]⟩:=by
     intro h0 ad cap hv p
     subst h0
     have hm:Moved C ρ U h w b (ρ b) w:=⟨rfl,rfl,rfl,Nat.le_refl _,fun _ _ _=>rfl,.inl ⟨hub,rfl⟩⟩
     simp only [List.replicate_zero,List.nil_append,Nat.add_zero,List.take_append_drop]
     refine ⟨.tuple #[],w,_,_,.inl (gF _ _ ?_),hm.hr hr (ob:= .row ety sz xs) (fun ⟨cs,hcs⟩=>by rw [hb] at hcs;cases hcs) ?_,.p (.v _),fun _ _ h=>hm.vr h,fun k hk=>hk.elim .inl fun e=> .inl (e▸hub)⟩
     ·cases ad<;>simp [Builtin.clear_,h2,h3,hv,run_underlying hu]
     ·refine dO.keep hm (fun g o n hl=>⟨(hr.bN g ⟨b,o,n,hl⟩).2,rfl⟩) hrow
    cases hl:ρ b with
    |dead=>rcases hrow with ⟨e',_⟩|⟨_,_,_,_,e',_⟩<;>rw [hl] at e'<;>cases e'
    |nil=>rw [hl] at hown;exact nothing hown.1 _ _ (by rw [hown.2]) _
    |«at» g og n=>
     rw [hl] at hown
     rcases hown with ⟨h0,_,hv|⟨A,hv⟩⟩|⟨cap,hlc,hroom,hv⟩
     ·exact nothing h0 _ _ hv _
     ·exact nothing h0 _ _ hv _
     ·by_cases h0:len=0
      ·subst h0;exact nothing rfl _ _ hv _
      ·have hfit:off+len<=xs.length:=hp
       obtain ⟨g',o',n',cells,hl',hg,hcs,hxn,hrl,hcell⟩:=uJ hr hb (by omega)
       rw [hl] at hl';cases hl'
       have hmul:(off+len)*sz<=xs.length*sz:=Nat.mul_le_mul_right _ hfit
       rw [Nat.add_mul] at hmul
       have CO:=ql z.cells len
       rw [hzc] at CO
       have CQ:∀ v ∈ (Builtin.zeroCells z.cells len).toList,v.oneCell'=true:=by
        intro v hv
        obtain ⟨j,hj,rfl⟩:=List.mem_iff_getElem.1 hv
        have hj':j<len*sz:=by rw [<-CO];exact hj
        have hsz:0<sz:=by
         rcases Nat.eq_zero_or_pos sz with h|h
         ·rw [h,Nat.mul_zero] at hj';omega
         ·exact h
        have d1:j / sz<len:=Nat.div_lt_of_lt_mul (by rw [Nat.mul_comm];exact hj')
        have d2:j % sz<sz:=Nat.mod_lt _ hsz
        have hgz:=zx hzc d1 d2
        rw [show j / sz*sz+j % sz=j from by rw [Nat.mul_comm];exact Nat.div_add_mod j sz,hzz] at hgz
        rw [<-Array.getElem?_toList,List.getElem?_eq_getElem hj] at hgz
        exact List.all_eq_true.1 hone _ (List.mem_iff_getElem?.2 ⟨_,hgz.symm⟩)
       have hst:=run_storeCells_at P g (og+off*sz) ety (Builtin.zeroCells z.cells len).toList 0 cells w hg (by rw [CO];omega) CQ
       simp only [Nat.add_zero,List.append_assoc] at hst
       have hm:Moved C ρ U h w b (.at g og n) (w.setRow g (pasted cells (og+off*sz) (Builtin.zeroCells z.cells len))):=by
        refine ⟨rfl,rfl,rfl,by simp,fun k hk hkb=> ?_,.inl ⟨hub,hl.symm⟩⟩
        by_cases hkg:k=g
        ·subst hkg;exact absurd hl (hkb og n)
        ·exact wG w g k _ hkg
       have hzs:(Builtin.zeroCells z.cells len).size=len*sz:=by rw [size_zeroCells,hzc]
       have hps:=qj cells (og+off*sz) (Builtin.zeroCells z.cells len) (by omega)
       have hgt:∀ k:Nat,(xs.take off++(List.replicate len (zs.map AV.v)++xs.drop (off+len)))[k]? =if k<off then xs[k]? else if k<off+len then some (zs.map AV.v) else xs[k]? :=by
        intro k
        have:=rR xs (List.replicate len (zs.map AV.v)) off k (by simpa using hfit)
        simp only [List.length_replicate] at this
        rw [this]
        split
        ·rfl
        ·split
         ·rw [List.getElem?_replicate,if_pos (by omega)]
         ·rfl
       refine ⟨.tuple #[],_,_,_,.inl (gF _ _ ?_),hm.hr hr (ob:= .row ety sz (xs.take off++(List.replicate len (zs.map AV.v)++xs.drop (off+len)))) (fun ⟨cs,hcs⟩=>by rw [hb] at hcs;cases hcs) ?_,.p (.v _),fun _ _ h=>hm.vr h,fun k hk=>hk.elim .inl fun e=> .inl (e▸hub)⟩
       ·have afU:len≠0:=h0
        simp [Builtin.clear_,h2,h3,hv,run_underlying hu,zeroValue,typeInfo,hi,hiz,hst,pasted]
       ·refine .inr ⟨g,og,n,_,rfl,setRow_heap w g cells _ ety (0,0) hg,by rw [hps];exact hcs,by
         rw [show (xs.take off++(List.replicate len (zs.map AV.v)++xs.drop (off+len))).length=xs.length from by simp;omega];exact hxn,fun k x' hk=> ?_,fun k x' j c hk hj=> ?_⟩
        ·rw [hgt] at hk
         split at hk
         ·exact hrl _ _ hk
         ·split at hk
          ·cases hk;simp [hzl]
          ·exact hrl _ _ hk
        ·rw [mQ _ _ _ (by omega),hzs]
         rw [hgt] at hk
         split at hk
         ·rename_i hko
          obtain ⟨u,hu1,hu2,hu3⟩:=hcell k x' j c hk hj
          have hjs:j<sz:=by rw [<-hrl k x' hk];exact (List.getElem?_eq_some_iff.1 hj).1
          have:(k+1)*sz<=off*sz:=Nat.mul_le_mul_right _ hko
          rw [Nat.add_mul,Nat.one_mul] at this
          rw [if_pos (by omega)]
          exact ⟨u,hu1,hu2,hm.vp hu3⟩
         ·split at hk
          ·rename_i hko hkl
           cases hk
           rw [List.getElem?_map,Option.map_eq_some_iff] at hj
           obtain ⟨q,hq,rfl⟩:=hj
           have hjs:j<sz:=by rw [<-hzl];exact (List.getElem?_eq_some_iff.1 hq).1
           have h5:k*sz=off*sz+(k - off)*sz:=by rw [<-Nat.add_mul];congr 1;omega
           have h6:(k - off+1)*sz<=len*sz:=Nat.mul_le_mul_right _ (by omega)
           rw [Nat.add_mul,Nat.one_mul] at h6
           rw [if_neg (by omega),if_pos (by omega)]
           refine ⟨q,?_,List.all_eq_true.1 hone q (List.mem_iff_getElem?.2 ⟨j,hq⟩),.v q⟩
           rw [show og+(k*sz+j) - (og+off*sz)=(k - off)*sz+j from by omega]
           rw [zx hzc (show k - off<len by omega) hjs,hzz]
           exact hq
          ·rename_i hko hkl
           obtain ⟨u,hu1,hu2,hu3⟩:=hcell k x' j c hk hj
           have h5:(off+len)*sz<=k*sz:=Nat.mul_le_mul_right _ (by omega)
           rw [Nat.add_mul] at h5
           rw [if_neg (by omega),if_neg (by omega)]
           exact ⟨u,hu1,hu2,hm.vp hu3⟩
   ·cases he
  ·cases he
 ·cases he
theorem Sm (hr:HR C ρ U h w) (ht:Tm C ρ U w t a) {ty el sz:Nat} {d x:Operand} {c:Call} (hu:P.underlying ty=some (.slice el)) (hs:aU P el=some sz) (hsz:0<sz)
 (hc:c.callee= .builtin .copy) (h2:c.argTypes[0]? =some ty) (h3:c.args= #[d,x]) (ho:o.op= .call c) (he:ax nm t h (.copy sz d x)=some e) (hp:e.pre):
 Run C ρ U h w nm ((execOp a.eval o).run P w) e:=by
 have gF:∀ v w',(Builtin.copy_ c.argTypes o.type (c.args.map a.eval)).run P w= .ok v w'->(execOp a.eval o).run P w= .ok (.value v) w':=by
  intro v w' hv
  simp only [execOp,ho,resolve,hc,invoke,builtin,Sem.run_bind,Sem.run_pure,Result.andThen_ok,hv]
 simp only [ax] at he
 split at he
 ·rename_i b sz' off len p ys hd hcn
  split at he
  ·rename_i ety s2 xs hb
   split at he
   ·rename_i hss
    obtain ⟨e1,e2⟩:=hss
    subst e1;subst e2
    simp only [Option.some.injEq] at he;subst he
    obtain ⟨hp1,hfit⟩:=hp
    obtain ⟨vals,hR⟩:∃ vals,Reads w (ay C ρ w) sz ys (a.eval x) vals:=by
     cases hx:ev t x with
     |none=>rw [hx] at hcn;simp [iP] at hcn
     |some y=>rw [hx] at hcn;exact wI hr hsz (aP ht hx) hcn hp1
    obtain ⟨hub,_,hown⟩:=(aP ht hd).mF
    have hrow:=(hr.hp b _ hb).2
    obtain ⟨ad,cap,hx,hnil,hcell⟩:=hR.form
    obtain ⟨m,hm⟩:∃ m,m=min len ys.length:=⟨_,rfl⟩
    obtain ⟨zv,hzv⟩:∃ zv,zv=vals.take (m*sz):=⟨_,rfl⟩
    have hmy:m*sz<=vals.length:=by rw [hR.len];exact Nat.mul_le_mul_right _ (by omega)
    have hzl:zv.length=m*sz:=by rw [hzv,List.length_take];omega
    have hm1:Nat.min ys.length len=m:=by rw [hm];exact Nat.min_comm _ _
    have hm2:min ys.length len=m:=hm1
    have hzg:∀ (j:Nat) (v:Value),zv[j]? =some v->vals[j]? =some v:=by
     intro j v hj
     rw [hzv,List.getElem?_take] at hj
     split at hj
     ·exact hj
     ·cases hj
    have hfc:(Builtin.firstCells sz m (.slice ad ys.length cap)).run P w= .ok zv.toArray w:=by
     cases ad with
     |none=>
      have h0:=hnil rfl
      have hm0:m=0:=by rw [hm,h0];simp
      have hz0:zv=[]:=List.eq_nil_of_length_eq_zero (by rw [hzl,hm0,Nat.zero_mul])
      rw [hz0]
      simp [Builtin.firstCells]
     |some B=>exact run_firstCells_some w sz m B ys.length cap zv hzl (fun j v hj=>hcell B rfl j v (hzg j v hj))
    have hlen:(ys.take len).length=m:=by rw [List.length_take,hm]
    have hargs:c.args.map a.eval= #[a.eval d,.slice ad ys.length cap]:=by rw [h3,<-hx];simp
    have nothing:m=0->∀ ad0 cap0,a.eval d= .slice ad0 len cap0->∀ p,Run C ρ U h w nm ((execOp a.eval o).run P w) ⟨p,.v (.int .i64 (Int.ofNat (min len ys.length))),[(b,.row ety sz (xs.take off++(ys.take len++xs.drop (off+min len ys.length))))]⟩:=by
     intro h0 ad0 cap0 hv p
     have hz0:zv=[]:=List.eq_nil_of_length_eq_zero (by rw [hzl,h0,Nat.zero_mul])
     have hy0:ys.take len=[]:=List.eq_nil_of_length_eq_zero (by rw [hlen,h0])
     have hmv:Moved C ρ U h w b (ρ b) w:=⟨rfl,rfl,rfl,Nat.le_refl _,fun _ _ _=>rfl,.inl ⟨hub,rfl⟩⟩
     rw [hy0,<-hm,h0]
     simp only [List.nil_append,Nat.add_zero,List.take_append_drop]
     refine ⟨.int .i64 (Int.ofNat 0),w,_,_,.inl (gF _ _ ?_),hmv.hr hr (ob:= .row ety sz xs) (fun ⟨cs,hcs⟩=>by rw [hb] at hcs;cases hcs) ?_,.p (.v _),fun _ _ h=>hmv.vr h,fun k hk=>hk.elim .inl fun e=> .inl (e▸hub)⟩
     ·rw [hargs,hv]
      rw [hz0] at hfc
      cases ad0<;>simp [Builtin.copy_,h2,run_underlying hu,Builtin.lenOf,gy hs,hm1,hm2,h0▸hfc,storeCells,goInt,h0]
     ·refine dO.keep hmv (fun g o n hl=>⟨(hr.bN g ⟨b,o,n,hl⟩).2,rfl⟩) hrow
    cases hl:ρ b with
    |dead=>rcases hrow with ⟨e',_⟩|⟨_,_,_,_,e',_⟩<;>rw [hl] at e'<;>cases e'
    |nil=>rw [hl] at hown;exact nothing (by rw [hm,hown.1];simp) _ _ (by rw [hown.2,hown.1]) _
    |«at» g og n=>
     rw [hl] at hown
     rcases hown with ⟨h0,_,hv|⟨A,hv⟩⟩|⟨cap0,hlc,hroom,hv⟩
     ·exact nothing (by rw [hm,h0];simp) _ _ (by rw [hv,h0]) _
     ·exact nothing (by rw [hm,h0];simp) _ _ (by rw [hv,h0]) _
     ·by_cases h0:m=0
      ·exact nothing h0 _ _ hv _
      ·obtain ⟨g',o',n',cells,hl',hg,hcs,hxn,hrl,rT⟩:=uJ hr hb (by omega)
       rw [hl] at hl';cases hl'
       have hmul:(off+m)*sz<=xs.length*sz:=Nat.mul_le_mul_right _ (by omega)
       rw [Nat.add_mul] at hmul
       have CQ:∀ v ∈ zv,v.oneCell'=true:=fun v hv=>hR.one v (List.mem_of_mem_take (by rw [<-hzv];exact hv))
       have hst:=run_storeCells_at P g (og+off*sz) ety zv 0 cells w hg (by rw [hzl];omega) CQ
       simp only [Nat.add_zero,List.append_assoc] at hst
       have hmv:Moved C ρ U h w b (.at g og n) (w.setRow g (pasted cells (og+off*sz) zv.toArray)):=by
        refine ⟨rfl,rfl,rfl,by simp,fun k hk hkb=> ?_,.inl ⟨hub,hl.symm⟩⟩
        by_cases hkg:k=g
        ·subst hkg;exact absurd hl (hkb og n)
        ·exact wG w g k _ hkg
       have hzs:zv.toArray.size=m*sz:=by simpa using hzl
       have hps:=qj cells (og+off*sz) zv.toArray (by omega)
       have hgt:∀ k:Nat,(xs.take off++(ys.take len++xs.drop (off+min len ys.length)))[k]? =if k<off then xs[k]? else if k<off+m then ys[k - off]? else xs[k]? :=by
        intro k
        have:=rR xs (ys.take len) off k (by rw [hlen];omega)
        rw [hlen] at this
        rw [<-hm,this]
        split
        ·rfl
        ·split
         ·rw [List.getElem?_take,if_pos (by omega)]
         ·rfl
       refine ⟨.int .i64 (Int.ofNat m),_,_,_,.inl (gF _ _ ?_),hmv.hr hr (ob:= .row ety sz (xs.take off++(ys.take len++xs.drop (off+min len ys.length)))) (fun ⟨cs,hcs⟩=>by rw [hb] at hcs;cases hcs) ?_,by rw [<-hm];exact .p (.v _),fun _ _ h=>hmv.vr h,fun k hk=>hk.elim .inl fun e=> .inl (e▸hub)⟩
       ·rw [hargs,hv]
        simp [Builtin.copy_,h2,run_underlying hu,Builtin.lenOf,gy hs,hm1,hm2,hfc,hst,pasted,goInt]
       ·refine .inr ⟨g,og,n,_,rfl,setRow_heap w g cells _ ety (0,0) hg,by rw [hps];exact hcs,by
         rw [show (xs.take off++(ys.take len++xs.drop (off+min len ys.length))).length=xs.length from by simp;omega];exact hxn,fun k x' hk=> ?_,fun k x' j c hk hj=> ?_⟩
        ·rw [hgt] at hk
         split at hk
         ·exact hrl _ _ hk
         ·split at hk
          ·exact hR.el _ _ hk
          ·exact hrl _ _ hk
        ·rw [mQ _ _ _ (by omega),hzs]
         rw [hgt] at hk
         split at hk
         ·rename_i hko
          obtain ⟨u,hu1,hu2,hu3⟩:=rT k x' j c hk hj
          have hjs:j<sz:=by rw [<-hrl k x' hk];exact (List.getElem?_eq_some_iff.1 hj).1
          have:(k+1)*sz<=off*sz:=Nat.mul_le_mul_right _ hko
          rw [Nat.add_mul,Nat.one_mul] at this
          rw [if_pos (by omega)]
          exact ⟨u,hu1,hu2,hmv.vp hu3⟩
         ·split at hk
          ·rename_i hko hkl
           have hjs:j<sz:=by rw [<-hR.el _ x' hk];exact (List.getElem?_eq_some_iff.1 hj).1
           obtain ⟨q,hq1,hq2⟩:=hR.rel _ x' j c hk hj
           have h5:k*sz=off*sz+(k - off)*sz:=by rw [<-Nat.add_mul];congr 1;omega
           have h6:(k - off+1)*sz<=m*sz:=Nat.mul_le_mul_right _ (by omega)
           rw [Nat.add_mul,Nat.one_mul] at h6
           rw [if_neg (by omega),if_pos (by omega)]
           refine ⟨q,?_,hR.one q (List.mem_iff_getElem?.2 ⟨_,hq1⟩),hmv.vp hq2⟩
           rw [show og+(k*sz+j) - (og+off*sz)=(k - off)*sz+j from by omega]
           rw [List.getElem?_toArray,hzv,List.getElem?_take,if_pos (by omega)]
           exact hq1
          ·rename_i hko hkl
           obtain ⟨u,hu1,hu2,hu3⟩:=rT k x' j c hk hj
           have h5:(off+m)*sz<=k*sz:=Nat.mul_le_mul_right _ (by omega)
           rw [Nat.add_mul] at h5
           rw [if_neg (by omega),if_neg (by omega)]
           exact ⟨u,hu1,hu2,hmv.vp hu3⟩
   ·cases he
  ·cases he
 ·cases he
end
end Go.Eng
namespace Go.Eng
open Go
section
variable {P:Program} {C:Ctx} {ρ:Nat->Loc} {U:Nat->Prop} {h:List (Nat×Ob)} {w:World} {nm:Nat} {t:List (Nat×AV)} {a:Act} {o:Oper} {e:E}
theorem Sn {so:dZ} (hs:strip P o=some so) (hr:HR C ρ U h w) (ht:Tm C ρ U w t a) (hn:¬ U nm) (he:ax nm t h so=some e) (hp:e.pre):
 Run C ρ U h w nm ((execOp a.eval o).run P w) e:=by
 unfold strip at hs
 split at hs
 ·rename_i x hop;cases hs;exact Jz hr ht (.inl hop) he
 ·rename_i x hop;cases hs;exact Jz hr ht (.inr hop) he
 ·rename_i c x y hop;cases hs;exact Q9 hr ht hop he
 ·rename_i el hop
  split at hs
  ·rename_i zs hz;cases hs;exact Rz hr hn hz hop he
  ·cases hs
 ·rename_i el x hop;cases hs;exact RA hr ht hn hop he
 ·rename_i ty parts hop
  split at hs
  ·rename_i fs hu
   split at hs
   ·rename_i zs hz
    split at hs
    ·rename_i ps hps
     split at hs
     ·rename_i hall
      cases hs
      exact RG hr ht hu hz hps (fun f hf=>List.all_eq_true.1 hall f hf) hop he
     ·cases hs
    ·cases hs
   ·cases hs
  ·rename_i n el hu
   split at hs
   ·rename_i zs hz
    split at hs
    ·rename_i sz hsz
     cases hs
     exact RJ hr ht hu hz hsz hop he
    ·cases hs
   ·cases hs
  ·cases hs
 ·rename_i ty len parts hop
  split at hs
  ·rename_i el hu
   split at hs
   ·rename_i zs hz
    split at hs
    ·rename_i sz hsz
     split at hs
     ·rename_i hc
      cases hs
      exact R6 hr ht hn hu hz hsz hc.1 hc.2.1 hc.2.2.1 hc.2.2.2 hop he
     ·cases hs
    ·cases hs
   ·cases hs
  ·cases hs
 ·rename_i ty x hop
  split at hs
  ·rename_i ag ha
   split at hs
   ·rename_i sz hsz;cases hs;exact Rp hr ht ha hsz hop he hp
   ·cases hs
  ·cases hs
 ·rename_i ty x y hop
  split at hs
  ·rename_i sz hsz;cases hs;exact RB hr ht hsz hop he hp
  ·cases hs
 ·rename_i x hop;cases hs;exact Rt hr ht hop he
 ·rename_i op ty x y ty' hop
  split at hs
  ·rename_i fs hu
   split at hs
   ·rename_i ks hk
    split at hs
    ·rename_i hc
     split at hs
     ·cases hs;exact JP (neg:=false) hr ht hu hk hc.1 hc.2 hop he
     ·cases hs;exact JP (neg:=true) hr ht hu hk hc.1 hc.2 hop he
     ·cases hs
    ·cases hs
   ·cases hs;simp [ax] at he
  ·cases hs;exact JB hr ht hop he hp
  ·cases hs;exact JB hr ht hop he hp
  ·rename_i hu
   split at hs
   ·cases hs;exact JC (neg:=false) hr ht hu hop he
   ·cases hs;exact JC (neg:=true) hr ht hu hop he
   ·cases hs
  ·split at hs
   ·cases hs;simp [ax] at he
   ·cases hs;simp [ax] at he
   ·cases hs
  ·cases hs
 ·rename_i op ty x hop;cases hs;exact Ra hr ht hop he
 ·rename_i src dst x hop
  split at hs
  ·rename_i k0 k h1 h2;cases hs;exact Rk hr ht h1 h2 hop he
  ·split at hs
   ·cases hs;simp [ax] at he
   ·cases hs
  ·rename_i el h1 h2
   split at hs
   ·rename_i h3;cases hs;exact Sg hr ht h1 h3 h2 hop he hp
   ·cases hs
  ·cases hs
 ·rename_i f first caps hop
  split at hs
  ·rename_i hf;cases hs;exact Rm hr ht hf hop he
  ·split at hs
   ·rename_i hf;cases hs;exact Rn hr ht hf hop he
   ·cases hs
 ·rename_i ty hop;cases hs;exact RP hr hn hop he
 ·rename_i ty m k hop
  split at hs
  ·rename_i kt et hu
   split at hs
   ·rename_i kk z hk hz
    cases hs
    refine RS hr ht hu hk ?_ hop he
    unfold uD at hz
    split at hz
    ·rename_i i hi;exact ⟨i,hi,hz⟩
    ·cases hz
   ·cases hs
  ·cases hs
 ·rename_i ty m k hop
  split at hs
  ·rename_i kt et hu
   split at hs
   ·rename_i kk z hk hz
    cases hs
    refine RU hr ht hu hk ?_ hop he
    unfold uD at hz
    split at hz
    ·rename_i i hi;exact ⟨i,hi,hz⟩
    ·cases hz
   ·cases hs
  ·cases hs
 ·rename_i ty m k x hop
  split at hs
  ·rename_i kt et hu
   split at hs
   ·rename_i kk hk;cases hs;exact RV hr ht hu hk hop he
   ·cases hs
  ·cases hs
 ·rename_i ty m k x hop
  split at hs
  ·rename_i kt et hu
   split at hs
   ·rename_i kk hk;cases hs;exact RX hr ht hu hk hop he
   ·cases hs
  ·cases hs
 ·rename_i ty l c hop
  split at hs
  ·rename_i el hu
   split at hs
   ·rename_i zs sz bW hz hsz hb
    split at hs
    ·rename_i hc;cases hs;exact RO hr ht hn ⟨hu,hz,hsz,hb,hc.1,hc.2.1⟩ hc.2.2 hop he hp
    ·cases hs
   ·cases hs
  ·cases hs
 ·rename_i ty x lo hi mx hop
  split at hs
  ·rename_i el hu
   split at hs
   ·rename_i sz hsz;cases hs;exact R8 hr ht hn hu hsz hop he hp
   ·cases hs
  ·rename_i hu
   split at hs
   ·cases hs;exact R9 hr ht hu hop he hp
   ·cases hs
  ·rename_i n el hu
   split at hs
   ·split at hs
    ·rename_i sz hsz;cases hs;exact Sb hr ht hu hsz hop he
    ·cases hs
   ·cases hs
  ·cases hs
 ·rename_i ty x f hop
  split at hs
  ·rename_i fs hu
   split at hs
   ·rename_i fd hf
    split at hs
    ·rename_i sz hsz
     split at hs
     ·cases hs
     ·rename_i hne;cases hs;exact Rq hr ht hu hf hsz hne hop he hp
    ·cases hs
   ·cases hs
  ·cases hs
 ·rename_i ty x f hop
  split at hs
  ·rename_i fs hu
   split at hs
   ·rename_i fd hf
    split at hs
    ·rename_i sz ag hsz ha;cases hs;exact Rs hr ht hu hf hsz ha hop he
    ·cases hs
   ·cases hs
  ·cases hs
 ·rename_i ty x i hop
  split at hs
  ·rename_i el hu
   split at hs
   ·rename_i sz hsz;cases hs;exact Rv hr ht hu hsz hop he hp
   ·cases hs
  ·rename_i n el hu
   split at hs
   ·rename_i sz hsz;cases hs;exact Ru hr ht hu hsz hop he hp
   ·cases hs
  ·cases hs
 ·rename_i ty x i hop
  split at hs
  ·rename_i n el hu
   split at hs
   ·rename_i sz ag hsz ha;cases hs;exact Sd hr ht hu hsz ha hop he hp
   ·cases hs
  ·rename_i hu;cases hs;exact Sc hr ht hu hop he hp
  ·cases hs
 ·rename_i x i hop;cases hs;exact Rb hr ht hop he
 ·cases hs;simp [ax] at he
 ·cases hs;simp [ax] at he
 ·rename_i c hop
  split at hs
  ·cases hs;simp [ax] at he
  ·rename_i hc
   split at hs
   ·rename_i ty x h2 h3
    split at hs
    ·rename_i el hu;cases hs;exact Rx hr ht hu hc h2 h3 hop he
    ·rename_i hu;cases hs;exact Rw hr ht hu hc h2 h3 hop he
    ·cases hs
   ·cases hs
  ·rename_i hc
   split at hs
   ·rename_i ty x h2 h3
    split at hs
    ·rename_i el hu;cases hs;exact Sj hr ht hu hc h2 h3 hop he
    ·cases hs
   ·cases hs
  ·rename_i hc
   split at hs
   ·rename_i ty ty' s x h2 h3
    have h2':c.argTypes= #[ty,ty']:=Array.toList_inj.1 (by simpa using h2)
    have h3':c.args= #[s,x]:=Array.toList_inj.1 (by simpa using h3)
    split at hs
    ·rename_i hty
     subst hty
     split at hs
     ·rename_i el hu
      split at hs
      ·rename_i zs sz bW hz hsz hb
       split at hs
       ·rename_i hcc;cases hs;exact RD hr ht hn ⟨hu,hz,hsz,hb,hcc.1,hcc.2⟩ hc h2' h3' hop he hp
       ·cases hs
      ·cases hs
     ·cases hs
    ·split at hs
     ·rename_i el q hu hti
      split at hs
      ·rename_i zs sz bW hz hsz hb
       split at hs
       ·rename_i hcc;cases hs;exact Sk hr ht hn ⟨hu,hz,hsz,hb,hcc.1,hcc.2.1⟩ hcc.2.2 hti hc h2' h3' hop he hp
       ·cases hs
      ·cases hs
     ·cases hs
   ·cases hs
  ·rename_i hc
   split at hs
   ·rename_i ty x h2 h3
    split at hs
    ·rename_i el hu
     split at hs
     ·rename_i zs sz hz hsz
      split at hs
      ·rename_i hcc;cases hs;exact Sl hr ht hu hz hsz hcc.1 hcc.2.2 hc h2 h3 hop he hp
      ·cases hs
     ·cases hs
    ·cases hs
   ·cases hs
  ·rename_i hc;cases hs;exact JZ (mx:=true) hr ht hc hop he
  ·rename_i hc;cases hs;exact JZ (mx:=false) hr ht hc hop he
  ·rename_i hc
   split at hs
   ·rename_i ty d x h2 h3
    have h3':c.args= #[d,x]:=Array.toList_inj.1 (by simpa using h3)
    split at hs
    ·rename_i el hu
     split at hs
     ·rename_i sz hsz
      split at hs
      ·rename_i hpos;cases hs;exact Sm hr ht hu hsz hpos hc h2 h3' hop he hp
      ·cases hs;simp [ax] at he
     ·cases hs;simp [ax] at he
    ·cases hs;simp [ax] at he
   ·cases hs;simp [ax] at he
  ·cases hs
 ·cases hs
end
end Go.Eng
namespace Go.Eng
open Go
def oJ (nt:Nat):List av->Bool
 |[]=>true
 |o::l=>(match o.dst with
  |some d=>decide (d<nt)
  |none=>true)&&oJ nt l
def iH (nt:Nat):cK->Bool
 | .region ops _=>oJ nt ops
 | .seq a b=>iH nt a&&iH nt b
 | .cond _ x y=>iH nt x&&iH nt y
 | .block _ c=>iH nt c
 | .loop c=>iH nt c
 |_=>true
section
variable {P:Program} {C:Ctx} {ρ:Nat->Loc} {U:Nat->Prop} {h:List (Nat×Ob)} {w:World} {nm:Nat} {t:List (Nat×AV)} {a:Act} {o:Oper}
theorem Tm.put (ht:Tm C ρ U w t a) {dst:Option Nat} {x:AV} {v:Value} (hv:VR w (ay C ρ w) ρ U x v) (hd:∀ d,dst=some d->d<a.tmps.size):Tm C ρ U w (aV t dst x) (a.put dst v):=by
 intro k y hk
 cases dst with
 |none=>exact ht k y hk
 |some d=>
  have hlt:=hd d rfl
  simp only [aV,get] at hk
  by_cases e:d=k
  ·subst e
   rw [if_pos rfl] at hk
   cases hk
   exact ⟨v,by simp [Act.put,hlt],hv⟩
  ·rw [if_neg e] at hk
   obtain ⟨u,h1,h2⟩:=ht k y hk
   exact ⟨u,by simp only [Act.put,Array.getElem?_setIfInBounds];rw [if_neg e];exact h1,h2⟩
theorem wN (a:Act) (dst:Option Nat) (v:Value):(a.put dst v).tmps.size=a.tmps.size:=by
 cases dst<;>simp [Act.put]
theorem put_defers (a:Act) (dst:Option Nat) (v:Value):(a.put dst v).defers=a.defers:=by
 cases dst<;>simp [Act.put]
structure fQ (C:Ctx) (ρ:Nat->Loc) (U:Nat->Prop) (t:List (Nat×AV)) (h:List (Nat×Ob)) (a:Act) (w:World):Prop where
 hr:HR C ρ U h w
 tm:Tm C ρ U w t a
 defers:a.defers=[]
 sz:a.tmps.size=C.nt
theorem Sq {c:Call} {f:Operand} {g:FuncId} {vs:Array Value} (hc:c.callee= .value f) (hf:a.eval f= .func (.func g) #[] vs) (ho:o.op= .call c) (hE:Enters P g):
 (execOp a.eval o).run P w= .ok (.enter g (c.args.map a.eval++vs)) w:=by
 obtain ⟨fn,h1,h2,h3⟩:=hE
 simp only [execOp,ho,resolve,hc,Deferred.ofValue,hf,Sem.run_bind,Sem.run_pure,Result.andThen_ok,invoke,callFunc,run_program,h1,h2,h3,Bool.false_eq_true,if_false,Array.empty_append]
theorem Sr {c:Call} {f:Operand} {g:FuncId} {vs:Array Value} (hc:c.callee= .value f) (hf:a.eval f= .func (.func g) vs #[]) (ho:o.op= .call c) (hE:Enters P g):
 (execOp a.eval o).run P w= .ok (.enter g (vs++c.args.map a.eval)) w:=by
 obtain ⟨fn,h1,h2,h3⟩:=hE
 simp only [execOp,ho,resolve,hc,Deferred.ofValue,hf,Sem.run_bind,Sem.run_pure,Result.andThen_ok,invoke,callFunc,run_program,h1,h2,h3,Bool.false_eq_true,if_false,Array.append_empty]
theorem VL.append {ok:Nat->Prop} {cs ds:List AV} {us vs:Array Value} (h1:VL w ok ρ U cs us) (h2:VL w ok ρ U ds vs):VL w ok ρ U (cs++ds) (us++vs):=by
 refine ⟨by simp [h1.1,h2.1],fun i c u hi hu=> ?_⟩
 rw [List.getElem?_append] at hi
 rw [Array.getElem?_append] at hu
 have:=h1.1
 split at hi
 ·rw [if_pos (by omega)] at hu
  exact h1.2 i c u hi hu
 ·rw [if_neg (by omega)] at hu
  rw [<-this] at hu
  exact h2.2 _ c u hi hu
theorem J2 {f:Operand} {args:List Operand} (hs:strip P o=some (.call f args)):∃ c,o.op= .call c/\c.callee= .value f/\c.args.toList=args:=by
 unfold strip at hs
 split at hs<;>(repeat' split at hs)<;>first
  |(cases hs;done)
  |(simp at hs;done)
  |skip
 all_goals (simp only [Option.some.injEq,dZ.call.injEq] at hs;obtain ⟨rfl,rfl⟩:=hs;exact ⟨_,by assumption,by assumption,rfl⟩)
theorem Sv {neg:Bool} {x:Operand} (hs:strip P o=some (.jw neg x)):∃ t e n c t',o.op= .binOp (if neg then .neq else .eql) t x (.const (.slice none n c)) t'/\P.underlying t=some (.slice e):=by
 unfold strip at hs
 split at hs<;>(repeat' split at hs)<;>first
  |(cases hs;done)
  |(simp at hs;done)
  |skip
 all_goals (simp only [Option.some.injEq,dZ.jw.injEq] at hs;obtain ⟨rfl,rfl⟩:=hs;exact ⟨_,_,_,_,_,by assumption,by assumption⟩)
theorem Sw {neg:Bool} {x:Operand} {ty e ty':TypeId} {n c:Nat} {b:Option Addr} {n' c':Nat} (hty:P.underlying ty=some (.slice e)) (ho:o.op= .binOp (if neg then .neq else .eql) ty x (.const (.slice none n c)) ty')
 (hx:a.eval x= .slice b n' c'):(execOp a.eval o).run P w= .ok (.value (.bool (if neg then !b.isNone else b.isNone))) w:=by
 have e1:a.eval (.const (.slice none n c))= .slice none n c:=rfl
 cases neg
 ·simp only [Bool.false_eq_true,if_false] at ho ⊢
  have e2:eqGuard .eql ty x (.const (.slice none n c)) (.slice b n' c') (.slice none n c)=pure ():=rfl
  simp only [execOp,ho,hx,e1,e2,Sem.run_bind,Sem.run_pure,Result.andThen_ok,Lib.run_eql_slice_nil w ty e b n' c' n c hty]
 ·simp only [if_true] at ho ⊢
  have e2:eqGuard .neq ty x (.const (.slice none n c)) (.slice b n' c') (.slice none n c)=pure ():=rfl
  simp only [execOp,ho,hx,e1,e2,Sem.run_bind,Sem.run_pure,Result.andThen_ok,run_neq_slice_nil_any w ty e b n' c' n c hty]
theorem J3 {so:dZ} {gd:Option (Nat×Bool)} {af:List Nat} {Q:List (Nat×AV)->List (Nat×Ob)->Prop} {K:Exit->Act->World->Prop} {next:Act->World->Prop} (hs:strip P o=some so) (hS:fQ C ρ U t h a w) (hfr:∀ b,U b->¬ (nm<=b/\b<nm+8)) (hd:∀ d,o.dst=some d->d<C.nt)
 (hw:iE P nm ⟨o.dst,so,gd,af⟩ t h Q) (hn:∀ t' h' a' w' ρ' U',fQ C ρ' U' t' h' a' w'->(∀ b,U' b->U b\/(nm<=b/\b<nm+8))->Q t' h'->next a' w'):o.wp P a w next K:=by
 have hd':∀ d,o.dst=some d->d<a.tmps.size:=fun d h=>by rw [hS.sz];exact hd d h
 by_cases hcall:∃ f args,so= .call f args
 ·obtain ⟨f,args,rfl⟩:=hcall
  simp only [iE] at hw
  unfold iQ at hw
  split at hw
  ·rename_i g caps xs hf hxs
   split at hw
   ·rename_i hg
    obtain ⟨hE,hW⟩:=hw
    obtain ⟨c,hop,hc,rfl⟩:=J2 hs
    obtain ⟨vs,wO,CR⟩:=VR.y8 (Nat.lt_trans hg (by decide)) (aP hS.tm hf)
    rw [lH,if_pos hg] at wO
    have hargs:=uE hS.tm hxs
    have hvl:=hargs.append CR
    unfold Oper.wp
    rw [Sq hc wO hop hE]
    rw [Oper.upon_enter]
    have e0:c.args.map a.eval=(c.args.toList.map a.eval).toArray:=by apply Array.ext';simp
    rw [e0]
    refine (hW C ρ U w _ hS.hr hfr hvl).mono fun e w' hpost=> ?_
    obtain ⟨v,r,h',ρ',U',rfl,hr',hv',hk,hU,hQ⟩:=hpost
    refine hn _ _ _ _ ρ' U' ⟨hr',Tm.put (fun k x hx=> ?_) hv' hd',by rw [put_defers];exact hS.defers,by rw [wN];exact hS.sz⟩ hU hQ
    ·obtain ⟨u,h1,h2⟩:=hS.tm k x hx
     exact ⟨u,h1,hk _ _ h2⟩
   ·rename_i hg
    split at hw
    ·rename_i hg2
     obtain ⟨hE,hW⟩:=hw
     obtain ⟨c,hop,hc,rfl⟩:=J2 hs
     obtain ⟨vs,wO,CR⟩:=VR.y8 hg2 (aP hS.tm hf)
     rw [lH,if_neg hg] at wO
     have hargs:=uE hS.tm hxs
     have hvl:=CR.append hargs
     unfold Oper.wp
     rw [Sr hc wO hop hE]
     rw [Oper.upon_enter]
     have e0:c.args.map a.eval=(c.args.toList.map a.eval).toArray:=by apply Array.ext';simp
     rw [e0]
     refine (hW C ρ U w _ hS.hr hfr hvl).mono fun e w' hpost=> ?_
     obtain ⟨v,r,h',ρ',U',rfl,hr',hv',hk,hU,hQ⟩:=hpost
     refine hn _ _ _ _ ρ' U' ⟨hr',Tm.put (fun k x hx=> ?_) hv' hd',by rw [put_defers];exact hS.defers,by rw [wN];exact hS.sz⟩ hU hQ
     ·obtain ⟨u,h1,h2⟩:=hS.tm k x hx
      exact ⟨u,h1,hk _ _ h2⟩
    ·exact hw.elim
  ·exact hw.elim
 ·by_cases hnil:∃ neg x,so= .jw neg x
  ·obtain ⟨neg,x,rfl⟩:=hnil
   obtain ⟨ty,e,n,c,ty',ho,hty⟩:=Sv hs
   simp only [iE,zf] at hw
   have go1:∀ b n' c',a.eval x= .slice b n' c'->Q (aV t o.dst (.v (.bool (if neg then !b.isNone else b.isNone)))) h->o.wp P a w next K:=by
    intro b n' c' hx hQ
    unfold Oper.wp
    rw [Sw hty ho hx,Oper.upon_value]
    exact hn _ _ _ _ ρ U ⟨hS.hr,Tm.put hS.tm (.p (.v _)) hd',by rw [put_defers];exact hS.defers,by rw [wN];exact hS.sz⟩ (fun b hb=> .inl hb) hQ
   split at hw
   ·rename_i b hk
    unfold qc at hk
    split at hk
    ·rename_i n' c' hx
     cases hk
     exact go1 none n' c' (aP hS.tm hx).bR hw
    ·rename_i sz y ys hx
     cases hk
     have hv:=(aP hS.tm hx).ou
     generalize hu:a.eval x=u at hv
     cases hv
     exact go1 (some _) _ _ hu hw
    ·cases hk
    ·cases hk
    ·cases hk
   ·rename_i hk
    have hsl:∃ b n' c',a.eval x= .slice b n' c':=by
     unfold qc at hk
     split at hk
     ·cases hk
     ·cases hk
     ·rename_i sz hx
      have hv:=(aP hS.tm hx).ou
      generalize hu:a.eval x=u at hv
      cases hv<;>exact ⟨_,_,_,rfl⟩
     ·rename_i hx
      obtain ⟨hu,⟨ad,len',cap',hsl⟩,hown⟩:=(aP hS.tm hx).mF
      exact ⟨_,_,_,hsl⟩
     ·cases hk
    obtain ⟨b,n',c',hx⟩:=hsl
    refine go1 b n' c' hx ?_
    cases hb:b.isNone
    ·simpa [hb] using hw.2
    ·simpa [hb] using hw.1
   ·exact hw.elim
  ·have hw':qd nm t h so (ax nm t h so) fun t h e=>Q (aV t o.dst e.val) (e.upd++h):=by
    cases so<;>first|exact hw|exact absurd ⟨_,_,rfl⟩ hcall|exact absurd ⟨_,_,rfl⟩ hnil
   have main:∀ (t:List (Nat×AV)) (h:List (Nat×Ob)) (ρ:Nat->Loc) (U:Nat->Prop) (e:E),fQ C ρ U t h a w->(∀ b,U b->¬ (nm<=b/\b<nm+8))->ax nm t h so=some e->e.pre->Q (aV t o.dst e.val) (e.upd++h)->
    (∀ t' h' a' w' ρ' U',fQ C ρ' U' t' h' a' w'->(∀ b,U' b->U b\/(nm<=b/\b<nm+8))->Q t' h'->next a' w')->o.wp P a w next K:=by
    intro t h ρ U e hS hfr he hp hQ hn
    obtain ⟨v,w',ρ',U',hrun,hr',hv',hk,hU⟩:=Sn hs hS.hr hS.tm (fun hu=>hfr _ hu ⟨Nat.le_refl _,by omega⟩) he hp
    have J4:fQ C ρ' U' (aV t o.dst e.val) (e.upd++h) (a.put o.dst v) w':=
     ⟨hr',Tm.put (fun k x hx=>by
      obtain ⟨u,h1,h2⟩:=hS.tm k x hx
      exact ⟨u,h1,hk _ _ h2⟩) hv' hd',by rw [put_defers];exact hS.defers,by rw [wN];exact hS.sz⟩
    have iI:∀ b,U' b->U b\/(nm<=b/\b<nm+8):=fun b hb=>by
     rcases hU b hb with h1|h1
     ·exact .inl h1
     ·exact .inr (by omega)
    unfold Oper.wp
    rcases hrun with hrun|⟨rfl,hrun⟩
    ·rw [hrun,Oper.upon_value]
     exact hn _ _ _ _ ρ' U' J4 iI hQ
    ·rw [hrun,Oper.upon_skip]
     exact hn _ _ _ _ ρ' U' J4 iI hQ
   unfold qd at hw'
   split at hw'
   ·rename_i e he
    exact main t h ρ U e hS hfr he hw'.1 hw'.2 hn
   ·obtain ⟨t',h',hW,hE⟩:=hw'
    unfold onE at hE
    split at hE
    ·rename_i e he
     obtain ⟨ρ',U',hR,iI⟩:=hW C ρ U a w ⟨hS.hr,hS.defers,hS.sz,hS.tm⟩
     exact main t' h' ρ' U' e ⟨hR.hr,hR.tm,hR.defers,hR.sz⟩ (fun b hb=>hfr b (iI b hb)) he hE.1 hE.2 fun t'' h'' a'' w'' CS rV CU CV Sy=>
      hn t'' h'' a'' w'' CS rV CU (fun b hb=>(CV b hb).imp (iI b) id) Sy
    ·exact hE.elim
theorem J5 {ops:Array Oper} {draw:Bool} {so:av} (hs:mP P ops draw o=some so):
 strip P o=some so.op/\so.dst=o.dst/\(so.guard=none↔o.guard=none)/\∀ g wt,so.guard=some (g,wt)->∃ j,o.guard=some (j,wt)/\((ops[j]?).bind (·.dst))=some g:=by
 unfold mP at hs
 split at hs
 ·rename_i sp hsp
  split at hs
  ·rename_i hg
   cases hs
   exact ⟨hsp,rfl,by simp [hg],fun g wt e=>by simp at e⟩
  ·rename_i j wt hg
   split at hs
   ·rename_i g hgd
    cases hs
    refine ⟨hsp,rfl,by simp [hg],fun g' wt' e=> ?_⟩
    simp only [Option.some.injEq,Prod.mk.injEq] at e
    obtain ⟨rfl,rfl⟩:=e
    exact ⟨j,hg,hgd⟩
   ·cases hs
 ·cases hs
theorem J6 {ops:Array Oper} {draw:Bool} {l:List Oper} {sl:List av} (hs:kG P ops draw (o::l)=some sl):
 ∃ so sl',sl=so::sl'/\mP P ops draw o=some so/\kG P ops draw l=some sl':=by
 unfold kG at hs
 split at hs
 ·rename_i so hso
  split at hs
  ·rename_i sl' hsl
   cases hs
   exact ⟨so,sl',rfl,hso,hsl⟩
  ·cases hs
 ·cases hs
theorem CW {ops:Array Oper} {j g:Nat} {wt b:Bool} (hg:o.guard=some (j,wt)) (hd:((ops[j]?).bind (·.dst))=some g) (hv:a.tmps[g]? =some (.bool b)):
 Region.wanted o (yielded ops a.tmps)=(b==wt):=by
 simp only [Region.wanted,hg,yielded,hd,Option.bind_some,hv]
 cases b<;>cases wt<;>rfl
theorem J7 {ops:Array Oper} {j g:Nat} {wt:Bool} {xs:Array Value} (hg:o.guard=some (j,wt)) (hd:((ops[j]?).bind (·.dst))=some g) (hv:a.tmps[g]? =some (.tuple xs)):
 Region.wanted o (yielded ops a.tmps)=false:=by
 simp only [Region.wanted,hg,yielded,hd,Option.bind_some,hv]
 cases wt<;>rfl
theorem fQ.skip (hS:fQ C ρ U t h a w) {dst:Option Nat} (hd:∀ d,dst=some d->d<C.nt):fQ C ρ U (aV t dst (.v undef)) h (a.put dst undef) w:=
 ⟨hS.hr,Tm.put hS.tm (.p (.v _)) (fun d h=>by rw [hS.sz];exact hd d h),by rw [put_defers];exact hS.defers,by rw [wN];exact hS.sz⟩
theorem Sz {ops:Array Oper} {draw:Bool} {K:Exit->Act->World->Prop} {Q:List (Nat×AV)->List (Nat×Ob)->Prop} (l:List Oper):
 ∀ (sl:List av) (nm:Nat) (t:List (Nat×AV)) (h:List (Nat×Ob)) (a:Act) (w:World) (ρ:Nat->Loc) (U:Nat->Prop),
  kG P ops draw l=some sl->oJ C.nt sl=true->fQ C ρ U t h a w->(∀ b,U b->b<nm)->wpOps P nm sl t h Q->
  (∀ t' h' a' w' ρ' U',fQ C ρ' U' t' h' a' w'->(∀ b,U' b->b<nm+8*sl.length)->Q t' h'->K .normal a' w')->wpList P ops K l a w:=by
 induction l with
 |nil=>
  intro sl nm t h a w ρ U hs _ hS hU hw hn
  simp only [kG,Option.some.injEq] at hs
  subst hs
  exact hn t h a w ρ U hS (fun b hb=>by have:=hU b hb;simp;omega) hw
 |cons o l ih=>
  intro sl nm t h a w ρ U hs hd hS hU hw hn
  obtain ⟨so,sl',rfl,hso,hsl⟩:=J6 hs
  obtain ⟨h1,h2,h3,h4⟩:=J5 hso
  simp only [oJ,Bool.and_eq_true] at hd
  have hdst:∀ d,o.dst=some d->d<C.nt:=fun d e=>by
   have:=hd.1
   rw [h2,e] at this
   simpa using this
  have hfr:∀ b,U b->¬ (nm<=b/\b<nm+8):=fun b hb=>by have:=hU b hb;omega
  have hrest:∀ t' h' a' w' ρ' U',fQ C ρ' U' t' h' a' w'->(∀ b,U' b->U b\/(nm<=b/\b<nm+8))->wpOps P (nm+8) sl' t' h' Q->wpList P ops K l a' w':=
   fun t' h' a' w' ρ' U' hS' iI hw'=>ih sl' (nm+8) t' h' a' w' ρ' U' hsl hd.2 hS' (fun b hb=>by
    rcases iI b hb with e|e
    ·have:=hU b e;omega
    ·omega) hw' fun t'' h'' a'' w'' CS rV CU CV hQ=>hn t'' h'' a'' w'' CS rV CU (fun b hb=>by have:=CV b hb;simp only [List.length_cons];omega) hQ
  have hdo:∀ {gd af},iE P nm ⟨o.dst,so.op,gd,af⟩ t h (fun t' h'=>wpOps P (nm+8) sl' t' h' Q)->o.wp P a w (wpList P ops K l) K:=fun hw'=>
   J3 h1 hS hfr hdst hw' hrest
  have uN:wpOps P (nm+8) sl' (aV t o.dst (.v undef)) h Q->wpList P ops K l (a.put o.dst undef) w:=fun hw'=>
   hrest _ _ _ _ ρ U (hS.skip hdst) (fun b hb=> .inl hb) hw'
  obtain ⟨dst,op,gd,af⟩:=so
  subst h2
  simp only [wpOps] at hw
  simp only [wpList]
  split at hw
  ·rename_i hg
   have hg':=h3.1 rfl
   have:Region.wanted o (yielded ops a.tmps)=true:=by simp [Region.wanted,hg']
   rw [if_pos this]
   exact .inl (hdo hw)
  ·rename_i g wt
   obtain ⟨j,hj,hjd⟩:=h4 g wt rfl
   unfold mO at hw
   split at hw
   ·rename_i b hx
    obtain ⟨u,hu,hv⟩:=hS.tm g _ hx
    have:=hv.bR
    subst this
    rw [CW hj hjd hu]
    cases b<;>cases wt
    ·exact .inl (hdo (hw.2 rfl))
    ·exact uN (hw.2 rfl)
    ·exact uN (hw.1 rfl)
    ·exact .inl (hdo (hw.1 rfl))
   ·rename_i xs hx
    obtain ⟨u,hu,hv⟩:=hS.tm g _ hx
    have:=hv.bR
    subst this
    rw [J7 hj hjd hu]
    exact uN hw
   ·exact hw.elim
end
end Go.Eng
namespace Go.Eng
open Go
theorem uO {t t':List (Nat×AV)}:∀ (l:List Operand),(∀ x ∈ l,ev t' x=ev t x)->iO t' l=iO t l
 |[],_=>rfl
 |x::l,h=>by
  simp only [iO,h x (List.mem_cons_self ..),uO l fun y hy=>h y (List.mem_cons_of_mem _ hy)]
theorem J8 {t t':List (Nat×AV)}:∀ (l:List (Nat×Nat×Operand)),(∀ x ∈ l.map (fun p=>p.2.2),ev t' x=ev t x)->oz t' l=oz t l
 |[],_=>rfl
 |(a,b,x)::l,h=>by
  simp only [oz,h x (by simp),J8 l fun y hy=>h y (by simp only [List.map_cons,List.mem_cons];exact .inr hy)]
theorem J9 {t t':List (Nat×AV)} {sz:Nat}:∀ (l:List (Nat×Operand)),(∀ x ∈ l.map (fun p=>p.2),ev t' x=ev t x)->oC t' sz l=oC t sz l
 |[],_=>rfl
 |(a,x)::l,h=>by
  simp only [oC,h x (by simp),J9 l fun y hy=>h y (by simp only [List.map_cons,List.mem_cons];exact .inr hy)]
theorem Ka {h h':List (Nat×Ob)}:∀ (ys:List AV),(∀ b ∈ dh ys,get h' b=get h b)->kE h' ys=kE h ys
 |[],_=>rfl
 |c::cs,hh=>by
  simp only [dh,List.mem_append] at hh
  have e1:oF h' c=oF h c:=by
   cases c<;>simp only [oF]
   rename_i b sz off len
   rw [hh b (.inl (by simp [oD]))]
  simp only [kE,e1,Ka cs fun b hb=>hh b (.inr hb)]
theorem SA {y:AV} {ys:List AV} (h:jR y=some ys):dh ys=za y:=by
 unfold jR at h
 split at h
 ·split at h
  ·cases h;rfl
  ·cases h
 ·rename_i hna
  split at h
  ·cases h
   have:za y=oD y:=by
    cases y<;>first|rfl|exact absurd rfl (hna _)
   rw [this];simp [dh]
  ·cases h
theorem Kb {t t':List (Nat×AV)} {h h':List (Nat×Ob)} {sz:Nat}:∀ (l:List (Nat×Operand)),(∀ x ∈ l.map (fun p=>p.2),ev t' x=ev t x)->(∀ b ∈ wB t l,get h' b=get h b)->kF t' h' sz l=kF t h sz l
 |[],_,_=>rfl
 |(a,x)::l,hx,hb=>by
  simp only [wB,List.mem_append] at hb
  have e1:=hx x (by simp)
  have e2:=Kb (h:=h) (h':=h') (sz:=sz) l (fun y hy=>hx y (by simp only [List.map_cons,List.mem_cons];exact .inr hy)) (fun b hm=>hb b (.inr hm))
  simp only [kF,e1,e2]
  cases he:ev t x with
  |none=>rfl
  |some y=>
   rw [he] at hb
   cases hl:kF t h sz l with
   |none=>rfl
   |some r=>
    obtain ⟨l',bs⟩:=r
    cases hc:jR y with
    |none=>simp only [hc]
    |some ys=>
     have e3:kE h' ys=kE h ys:=Ka ys fun b hm=>hb b (.inl (by simp only;rw [<-SA hc];exact hm))
     simp only [hc,e3]
theorem zy {t t':List (Nat×AV)} {d:Nat} (x:Option Operand) (h:∀ y ∈ x.toList,ev t' y=ev t y):bound t' d x=bound t d x:=by
 cases x with
 |none=>rfl
 |some y=>simp only [bound,h y (by simp)]
theorem CX {h h':List (Nat×Ob)} {sz:Nat} (x:Option AV) (hb:∀ b ∈ dA x,get h' b=get h b):iP h' sz x=iP h sz x:=by
 unfold iP
 split<;>try rfl
 rename_i b sz' off len
 rw [hb b (by simp [dA,AV.iF])]
theorem SB {nm:Nat} {t t':List (Nat×AV)} {h h':List (Nat×Ob)} (op:dZ) (hx:∀ x ∈ oG op,ev t' x=ev t x) (hb:∀ b ∈ bP t op,get h' b=get h b):
 ax nm t' h' op=ax nm t h op:=by
 cases op<;>simp only [oG,List.mem_cons,List.mem_append,List.not_mem_nil,or_false,forall_eq_or_imp,forall_eq] at hx<;>
  simp only [bP,List.not_mem_nil,List.mem_append] at hb<;>simp only [ax]
 case bO x=>simp only [hx]
 case pick a b c=>simp only [hx]
 case box x=>simp only [hx]
 case build zs ps=>rw [J8 ps hx]
 case jm e sz zs len ps=>rw [J9 ps hx,Kb ps hx hb]
 case load ag sz x=>
  rw [hx]
  cases hy:ev t x with
  |none=>rfl
  |some y=>cases y<;>first
   |rfl
   |(simp only [hy,dA,AV.iF,List.mem_cons,List.not_mem_nil,or_false,forall_eq] at hb;first|(simp only [hb];done)|(split<;>simp_all;done)|(cases z0<;>first|rfl|(rename_i y;cases y<;>first|rfl|(rename_i y;cases y<;>first|rfl|simp only [hb]))))
 case store sz x y=>
  rw [hx.1,hx.2]
  generalize ev t y=z0
  cases hy:ev t x with
  |none=>cases z0<;>rfl
  |some y=>cases y<;>first
   |rfl
   |(simp only [hy,dA,AV.iF,List.mem_cons,List.not_mem_nil,or_false,forall_eq] at hb;first|(simp only [hb];done)|(split<;>simp_all;done)|(cases z0<;>first|rfl|(rename_i y;cases y<;>first|rfl|(rename_i y;cases y<;>first|rfl|simp only [hb]))))
 case lI x=>
  rw [hx]
  cases hy:ev t x with
  |none=>rfl
  |some y=>cases y<;>first
   |rfl
   |(simp only [hy,dA,AV.iF,List.mem_cons,List.not_mem_nil,or_false,forall_eq] at hb;first|(simp only [hb];done)|(split<;>simp_all;done)|(cases z0<;>first|rfl|(rename_i y;cases y<;>first|rfl|(rename_i y;cases y<;>first|rfl|simp only [hb]))))
 case um n sz x=>
  rw [hx]
  cases hy:ev t x with
  |none=>rfl
  |some y=>
   cases y
   case ptr b j=>
    simp only [hy,dA,AV.iF,List.mem_cons,List.not_mem_nil,or_false,forall_eq] at hb
    cases j with
    |zero=>simp only [hb]
    |succ j=>rfl
   all_goals rfl
 case bin op x y=>simp only [hx]
 case eqs neg ks x y=>simp only [hx]
 case lJ neg x y=>simp only [hx]
 case un op x=>simp only [hx]
 case conv k x=>simp only [hx]
 case jO x=>rw [hx,CX _ hb]
 case mH f cs=>rw [uO cs hx]
 case qb f cs=>rw [uO cs hx]
 case look z m k=>
  rw [hx.1,hx.2]
  generalize ev t k=z0
  cases hy:ev t m with
  |none=>cases z0<;>rfl
  |some y=>cases y<;>first
   |rfl
   |(simp only [hy,dA,AV.iF,List.mem_cons,List.not_mem_nil,or_false,forall_eq] at hb;first|(simp only [hb];done)|(split<;>simp_all;done)|(cases z0<;>first|rfl|(rename_i y;cases y<;>first|rfl|(rename_i y;cases y<;>first|rfl|simp only [hb]))))
 case ow z m k=>
  rw [hx.1,hx.2]
  generalize ev t k=z0
  cases hy:ev t m with
  |none=>cases z0<;>rfl
  |some y=>cases y<;>first
   |rfl
   |(simp only [hy,dA,AV.iF,List.mem_cons,List.not_mem_nil,or_false,forall_eq] at hb;first|(simp only [hb];done)|(split<;>simp_all;done)|(cases z0<;>first|rfl|(rename_i y;cases y<;>first|rfl|(rename_i y;cases y<;>first|rfl|simp only [hb]))))
 case jy m k x=>
  rw [hx.1,hx.2.1,hx.2.2]
  generalize ev t k=z0
  generalize ev t x=z1
  cases hy:ev t m with
  |none=>cases z0<;>cases z1<;>rfl
  |some y=>cases y<;>first
   |rfl
   |(simp only [hy,dA,AV.iF,List.mem_cons,List.not_mem_nil,or_false,forall_eq] at hb;first|(simp only [hb];done)|(split<;>simp_all;done)|(cases z0<;>first|rfl|(rename_i y;cases y<;>first|rfl|(rename_i y;cases y<;>first|rfl|simp only [hb]))))
 case ku e sz bytes zs l c=>simp only [hx]
 case slice sz x lo hi mx=>
  have e1:bound t' 0 lo=bound t 0 lo:=zy lo fun y hy=>hx.2 y (.inl hy)
  have e2:∀ d,bound t' d hi=bound t d hi:=fun d=>zy hi fun y hy=>hx.2 y (.inr (.inl hy))
  cases mx with
  |some m=>
   have e3:ev t' m=ev t m:=hx.2 m (.inr (.inr (by simp)))
   cases hi with
   |none=>
    simp only [e1,e3,hx.1]
    generalize bound t 0 lo=z0
    cases ev t x with
    |none=>cases z0<;>rfl
    |some y=>cases y<;>cases z0<;>first|rfl|(simp only [];done)|(split<;>rfl)|(split<;>simp_all)
   |some q=>
    have e4:ev t' q=ev t q:=hx.2 q (.inr (.inl (by simp)))
    simp only [e1,e3,e4,hx.1]
    generalize bound t 0 lo=z0
    cases hy:ev t x with
    |none=>cases z0<;>rfl
    |some y=>cases y<;>cases z0<;>first|rfl|(simp only [];done)|(split<;>rfl)|(split<;>simp_all<;>(try (simp only [dA,AV.iF,List.mem_cons,List.not_mem_nil,or_false,forall_eq] at hb;simp only [hb])))
  |none=>
  simp only [e1,e2]
  rw [hx.1]
  generalize bound t 0 lo=z0
  cases hy:ev t x with
  |none=>cases z0<;>rfl
  |some y=>cases y<;>first
   |rfl
   |(simp only [hy,dA,AV.iF,List.mem_cons,List.not_mem_nil,or_false,forall_eq] at hb;first|(simp only [hb];done)|(split<;>simp_all;done)|(cases z0<;>first|rfl|(rename_i y;cases y<;>first|rfl|(rename_i y;cases y<;>first|rfl|simp only [hb]))))
 case jP x lo hi=>
  have e1:bound t' 0 lo=bound t 0 lo:=zy lo fun y hy=>hx.2 y (.inl hy)
  have e2:∀ d,bound t' d hi=bound t d hi:=fun d=>zy hi fun y hy=>hx.2 y (.inr hy)
  simp only [e1,e2,hx.1]
 case jo off x=>
  rw [hx]
  cases hy:ev t x with
  |none=>rfl
  |some y=>cases y<;>first
   |rfl
   |(simp only [hy,dA,AV.iF,List.mem_cons,List.not_mem_nil,or_false,forall_eq] at hb;first|(simp only [hb];done)|(split<;>simp_all;done)|(cases z0<;>first|rfl|(rename_i y;cases y<;>first|rfl|(rename_i y;cases y<;>first|rfl|simp only [hb]))))
 case mI ag off sz x=>simp only [hx]
 case jA sz x i=>
  rw [hx.1,hx.2]
  generalize ev t i=z0
  cases hy:ev t x with
  |none=>cases z0<;>rfl
  |some y=>cases y<;>first
   |rfl
   |(simp only [hy,dA,AV.iF,List.mem_cons,List.not_mem_nil,or_false,forall_eq] at hb;first|(simp only [hb];done)|(split<;>simp_all;done)|(cases z0<;>first|rfl|(rename_i y;cases y<;>first|rfl|(rename_i y;cases y<;>first|rfl|simp only [hb]))))
 case kz len sz x i=>
  rw [hx.1,hx.2]
  generalize ev t i=z0
  cases hy:ev t x with
  |none=>cases z0<;>rfl
  |some y=>cases y<;>first
   |rfl
   |(simp only [hy,dA,AV.iF,List.mem_cons,List.not_mem_nil,or_false,forall_eq] at hb;first|(simp only [hb];done)|(split<;>simp_all;done)|(cases z0<;>first|rfl|(rename_i y;cases y<;>first|rfl|(rename_i y;cases y<;>first|rfl|simp only [hb]))))
 case idx ag len sz x i=>simp only [hx]
 case idxs x i=>simp only [hx]
 case len x=>
  rw [hx]
  cases hy:ev t x with
  |none=>rfl
  |some y=>cases y<;>first
   |rfl
   |(simp only [hy,dA,AV.iF,List.mem_cons,List.not_mem_nil,or_false,forall_eq] at hb;first|(simp only [hb];done)|(split<;>simp_all;done)|(cases z0<;>first|rfl|(rename_i y;cases y<;>first|rfl|(rename_i y;cases y<;>first|rfl|simp only [hb]))))
 case mJ x=>simp only [hx]
 case cap x=>simp only [hx]
 case app e sz bytes zs s x=>
  rw [hx.1,hx.2,CX (ev t x) fun b hb'=>hb b (.inr hb')]
  have hb:=fun b h=>hb b (.inl h)
  cases hy:ev t s with
  |none=>rfl
  |some y=>cases y<;>first
   |rfl
   |(simp only [hy,dA,AV.iF,List.mem_cons,List.not_mem_nil,or_false,forall_eq] at hb;first|(simp only [hb];done)|(split<;>simp_all;done)|(cases z0<;>first|rfl|(rename_i y;cases y<;>first|rfl|(rename_i y;cases y<;>first|rfl|simp only [hb]))))
 case copy sz d x=>
  rw [hx.1,hx.2,CX (ev t x) fun b hb'=>hb b (.inr hb')]
  have hb:=fun b h=>hb b (.inl h)
  cases hy:ev t d with
  |none=>rfl
  |some y=>cases y<;>first
   |rfl
   |(simp only [hy,dA,AV.iF,List.mem_cons,List.not_mem_nil,or_false,forall_eq] at hb;first|(simp only [hb];done)|(split<;>simp_all;done)|(cases z0<;>first|rfl|(rename_i y;cases y<;>first|rfl|(rename_i y;cases y<;>first|rfl|simp only [hb]))))
 case kC e sz bytes zs s x=>simp only [hx]
 case kD sz zs x=>
  rw [hx]
  cases hy:ev t x with
  |none=>rfl
  |some y=>cases y<;>first
   |rfl
   |(simp only [hy,dA,AV.iF,List.mem_cons,List.not_mem_nil,or_false,forall_eq] at hb;first|(simp only [hb];done)|(split<;>simp_all;done)|(cases z0<;>first|rfl|(rename_i y;cases y<;>first|rfl|(rename_i y;cases y<;>first|rfl|simp only [hb]))))
 case ext i x=>simp only [hx]
 case lK mx xs=>rw [uO xs hx]
section fold
variable {α β:Type}
def dL (u:α->List (Nat×β)):List α->(Nat->Bool)->List (Nat×β)->List (Nat×β)
 |[],_,t=>t
 |x::L,D,t=>dL u L (fun i=>D (i+1)) (bif D 0 then u x++t else t)
def keys (us:List (Nat×β)):List Nat:=us.map Prod.fst
theorem zA {us t:List (Nat×β)} {k:Nat} (h:k ∈ keys us):get (us++t) k=get us k:=by
 induction us with
 |nil=>simp [keys] at h
 |cons p us ih=>
  obtain ⟨a,b⟩:=p
  simp only [List.cons_append,get]
  by_cases e:a=k
  ·rw [if_pos e,if_pos e]
  ·rw [if_neg e,if_neg e]
   simp only [keys,List.map_cons,List.mem_cons] at h
   exact ih (h.resolve_left (fun h=>e h.symm))
theorem Kc {us t:List (Nat×β)} {k:Nat} (h:k ∉ keys us):get (us++t) k=get t k:=by
 induction us with
 |nil=>rfl
 |cons p us ih=>
  obtain ⟨a,b⟩:=p
  simp only [keys,List.map_cons,List.mem_cons,not_or] at h
  simp only [List.cons_append,get]
  rw [if_neg (fun e=>h.1 e.symm)]
  exact ih h.2
variable {u:α->List (Nat×β)}
theorem rW:∀ (L:List α) (D E:Nat->Bool) (t t':List (Nat×β)) (k:Nat),get t k=get t' k->
 (∀ i x,L[i]? =some x->k ∈ keys (u x)->D i=E i)->get (dL u L D t) k=get (dL u L E t') k
 |[],_,_,_,_,_,h,_=>h
 |x::L,D,E,t,t',k,h,hk=>by
  simp only [dL]
  refine rW L _ _ _ _ k ?_ fun i y hy hm=>hk (i+1) y (by simpa using hy) hm
  by_cases hx:k ∈ keys (u x)
  ·rw [<-hk 0 x rfl hx]
   cases D 0
   ·exact h
   ·simp only [cond_true];rw [zA hx,zA hx]
  ·cases D 0<;>cases E 0<;>simp only [cond_true,cond_false,Kc hx]<;>exact h
theorem wP:∀ (L:List α) (t:List (Nat×β)),dL u L (fun _=>false) t=t
 |[],_=>rfl
 |_::L,t=>by simp only [dL,cond_false];exact wP L t
theorem Ke:∀ (L:List α) (j:Nat) (x:α) (D:Nat->Bool) (t:List (Nat×β)) (k:Nat),L[j]? =some x->D j=true->k ∈ keys (u x)->
 (∀ i y,j<i->D i=true->L[i]? =some y->k ∉ keys (u y))->get (dL u L D t) k=get (u x) k
 |[],_,_,_,_,_,h,_,_,_=>by simp at h
 |y::L,0,x,D,t,k,h,hD,hk,hn=>by
  simp only [List.getElem?_cons_zero,Option.some.injEq] at h
  subst h
  simp only [dL,hD,cond_true]
  rw [rW L _ (fun _=>false) _ _ k rfl fun i z hz hm=> ?_,wP,zA hk]
  cases hd:D (i+1) with
  |false=>rfl
  |true=>exact absurd hm (hn (i+1) z (by omega) hd (by simpa using hz))
 |y::L,j+1,x,D,t,k,h,hD,hk,hn=>by
  simp only [dL]
  exact Ke L j x _ _ k (by simpa using h) hD hk fun i z hi hd hz=>hn (i+1) z (by omega) hd (by simpa using hz)
def iJ (D:Nat->Bool) (j:Nat):Nat->Bool:=fun i=>D i||i==j
theorem Kg {L:List α} {j:Nat} {x:α} {D:Nat->Bool} {t:List (Nat×β)} (h:L[j]? =some x) (hD:D j=false)
 (hn:∀ i y,j<i->D i=true->L[i]? =some y->∀ k ∈ keys (u x),k ∉ keys (u y)) (k:Nat):
 get (dL u L (iJ D j) t) k=get (u x++dL u L D t) k:=by
 by_cases hk:k ∈ keys (u x)
 ·rw [zA hk]
  refine Ke L j x _ t k h (by simp [iJ]) hk fun i y hi hd hy=>hn i y hi ?_ hy k hk
  have:(i==j)=false:=by simp;omega
  simpa [iJ,this] using hd
 ·rw [Kc hk]
  refine rW L _ _ _ _ k rfl fun i y hy hm=> ?_
  by_cases e:i=j
  ·subst e
   rw [h] at hy;cases hy
   exact absurd hm hk
  ·simp [iJ,e]
end fold
theorem Kh (acc:List Nat) (i:Nat):∀ (af:List Nat) (s:Nat),(af.foldl (fun s e=>s|||(2 ^ e|||acc.getD e 0)) s).testBit i=true->
 s.testBit i=true\/∃ e ∈ af,e=i\/(acc.getD e 0).testBit i=true
 |[],s,h=> .inl h
 |e::af,s,h=>by
  simp only [List.foldl_cons] at h
  rcases Kh acc i af _ h with h|⟨e',he',h⟩
  ·simp only [Nat.testBit_or,Bool.or_eq_true,Nat.testBit_two_pow,decide_eq_true_eq] at h
   rcases h with h|h|h
   ·exact .inl h
   ·exact .inr ⟨e,List.mem_cons_self ..,.inl h⟩
   ·exact .inr ⟨e,List.mem_cons_self ..,.inr h⟩
  ·exact .inr ⟨e',List.mem_cons_of_mem _ he',h⟩
def CY (as:List (List Nat)) (acc:List Nat):Prop:=
 ∀ (j m:Nat),acc[j]? =some m->∀ D:Nat->Bool,(∀ i af,D i=true->as[i]? =some af->∀ e ∈ af,D e=true)->(∀ af,as[j]? =some af->∀ e ∈ af,D e=true)->
  ∀ i,m.testBit i=true->D i=true
theorem Ki (as:List (List Nat)):∀ (l:List (List Nat)) (acc:List Nat),as=as.take acc.length++l->acc.length<=as.length->CY as acc->CY as (uw acc l)
 |[],acc,_,_,h=>h
 |af::l,acc,he,hl,h=>by
  have jB:as[acc.length]? =some af:=by
   rw [he,List.getElem?_append_right (by simp;omega)]
   simp [Nat.min_eq_left hl]
  have hlt:acc.length<as.length:=(List.getElem?_eq_some_iff.1 jB).1
  refine Ki as l _ ?_ (by simp;omega) ?_
  ·have e1:(acc++[af.foldl (fun s e=>s|||(2 ^ e|||acc.getD e 0)) 0]).length=acc.length+1:=by simp
   rw [e1,List.take_succ,jB]
   simpa using he
  ·intro j m hj D hD hj' i hi
   rw [List.getElem?_append] at hj
   split at hj
   ·exact h j m hj D hD hj' i hi
   ·rename_i hge
    have hj0:j - acc.length=0:=by
     rcases Nat.eq_zero_or_pos (j - acc.length) with e|e
     ·exact e
     ·rw [List.getElem?_eq_none (by simp;omega)] at hj;cases hj
    rw [hj0] at hj
    simp only [List.getElem?_cons_zero,Option.some.injEq] at hj
    have CZ:j=acc.length:=by omega
    subst CZ
    rw [<-hj] at hi
    rcases Kh acc i af 0 hi with h0|⟨e,he',h0⟩
    ·simp at h0
    ·have hDe:=hj' af jB e he'
     rcases h0 with rfl|h0
     ·exact hDe
     ·have hlt:e<acc.length:=by
       rcases Nat.lt_or_ge e acc.length with h1|h1
       ·exact h1
       ·rw [List.getD_eq_getElem?_getD,List.getElem?_eq_none h1] at h0
        simp at h0
      have hm:acc[e]? =some (acc.getD e 0):=by
       rw [List.getD_eq_getElem?_getD,List.getElem?_eq_getElem hlt];rfl
      exact h e _ hm D hD (fun SE SF e' SG=>hD e SE hDe SF e' SG) i h0
theorem C8:∀ (l:List av) (n:Nat),uz n l=true->∀ (j:Nat) (o:av),l[j]? =some o->∀ e ∈ o.after,e<n+j
 |[],_,_,j,o,h=>by simp at h
 |o::l,n,h,0,o',h'=>by
  simp only [List.getElem?_cons_zero,Option.some.injEq] at h'
  subst h'
  simp only [uz,Bool.and_eq_true,List.all_eq_true,decide_eq_true_eq] at h
  exact fun e he=>h.1 e he
 |o::l,n,h,j+1,o',h'=>by
  simp only [uz,Bool.and_eq_true] at h
  intro e he
  have:=C8 l (n+1) h.2 j o' (by simpa using h') e he
  omega
theorem Kj (uy:List Nat) (all:List (av×aW)):∀ (l:List (av×aW)) (n:Nat),wD uy all n l=true->
 ∀ (j:Nat) (y:av×aW),l[j]? =some y->∀ (i:Nat) (x:av×aW),i<n+j->all[i]? =some x->(uy.getD (n+j) 0).testBit i=true\/qf x y=true
 |[],_,_,j,o,h=>by simp at h
 |y::l,n,h,0,y',h'=>by
  simp only [List.getElem?_cons_zero,Option.some.injEq] at h'
  subst h'
  simp only [wD,Bool.and_eq_true,List.all_eq_true,Bool.or_eq_true] at h
  intro i x hi hx
  have:=h.1 (x,i) (by
   rw [List.mem_iff_getElem?]
   refine ⟨i,?_⟩
   rw [List.getElem?_zipIdx,List.getElem?_take,if_pos (by omega),hx]
   simp)
  simpa using this
 |y::l,n,h,j+1,y',h'=>by
  simp only [wD,Bool.and_eq_true] at h
  intro i x hi hx
  have:=Kj uy all l (n+1) h.2 j y' (by simpa using h') i x (by omega) hx
  have e:n+(j+1)=n+1+j:=by omega
  rw [e];exact this
theorem C9 {xs ys:List Nat} (h:wC xs ys=true) {b:Nat} (hb:b ∈ xs):b ∉ ys:=by
 simp only [wC,List.all_eq_true,Bool.not_eq_true'] at h
 have:=h b hb
 simpa using this
end Go.Eng
namespace Go.Eng
open Go
def uT (x:av×Rec):List (Nat×AV):=match x.1.dst with
 |some d=>[(d,x.2.val)]
 |none=>[]
def uH (x:av×Rec):List (Nat×Ob):=x.2.upd
def foot (r:Rec):aW:=(r.rd,r.upd.map Prod.fst)
def Rec.skip:Rec:=⟨.v undef,[],[]⟩
theorem Da (t:List (Nat×AV)) (o:av) (r:Rec):aV t o.dst r.val=uT (o,r)++t:=by
 unfold aV uT
 cases o.dst<;>rfl
section
variable {P:Program} {nm:Nat} {t t':List (Nat×AV)} {h h':List (Nat×Ob)}
theorem wQ:∀ (l:List Operand),(∀ k ∈ oH l,get t' k=get t k)->∀ x ∈ l,ev t' x=ev t x
 |[],_,x,hx=>by simp at hx
 |y::l,h,x,hx=>by
  rcases List.mem_cons.1 hx with rfl|hx
  ·cases x<;>simp only [oH,List.mem_cons,forall_eq_or_imp] at h<;>simp only [ev]
   exact h.1
  ·refine wQ l (fun k hk=>h k ?_) x hx
   cases y<;>simp only [oH,List.mem_cons]<;>first|exact hk|exact .inr hk
def zB (P:Program) (nm:Nat) (o:av) (t:List (Nat×AV)) (h:List (Nat×Ob)) (r:Rec):Prop:=
 ∀ t' h',(∀ k ∈ oH (oG o.op),get t' k=get t k)->(∀ b ∈ r.rd,get h' b=get h b)->∀ Q:List (Nat×AV)->List (Nat×Ob)->Prop,
  Q (aV t' o.dst r.val) (r.upd++h')->iE P nm o t' h' Q
theorem Kk {o:av} {k:Rec->Prop} (hw:lN P nm o t h k):∃ r,k r/\zB P nm o t h r:=by
 unfold lN at hw
 split at hw
 ·rename_i f args hop
  unfold iQ at hw
  split at hw
  ·rename_i g caps xs hf hxs
   split at hw
   ·rename_i hg
    obtain ⟨r,hc,hk⟩:=hw
    refine ⟨r,hk,fun t' h' ht hb Q hQ=> ?_⟩
    have he:=wQ _ ht
    simp only [hop,oG,List.mem_cons,forall_eq_or_imp] at he
    unfold iE
    rw [hop]
    simp only [he.1,uO args he.2,hf,hxs,iQ,if_pos hg]
    exact hc h' hb _ hQ
   ·rename_i hg
    split at hw
    ·rename_i hg2
     obtain ⟨r,hc,hk⟩:=hw
     refine ⟨r,hk,fun t' h' ht hb Q hQ=> ?_⟩
     have he:=wQ _ ht
     simp only [hop,oG,List.mem_cons,forall_eq_or_imp] at he
     unfold iE
     rw [hop]
     simp only [he.1,uO args he.2,hf,hxs,iQ,if_neg hg,if_pos hg2]
     exact hc h' hb _ hQ
    ·exact hw.elim
  ·exact hw.elim
 ·rename_i neg x hop
  unfold Cn at hw
  split at hw
  ·rename_i b hb
   refine ⟨_,hw,fun t' h' ht _ Q hQ=> ?_⟩
   have he:=wQ _ ht
   simp only [hop,oG,List.mem_cons,List.not_mem_nil,or_false,forall_eq] at he
   unfold iE
   rw [hop]
   simp only [he,hb,zf]
   exact hQ
  ·exact hw.elim
 ·rename_i op h1 h2
  unfold onE at hw
  split at hw
  ·rename_i e he
   refine ⟨_,hw.2,fun t' h' ht hb Q hQ=> ?_⟩
   have hd:=SB (nm:=nm) o.op (wQ _ ht) hb
   rw [he] at hd
   unfold iE
   split
   ·rename_i f args hop;exact absurd hop (h1 f args)
   ·rename_i neg x hop;exact absurd hop (h2 neg x)
   ·unfold qd;rw [hd];exact ⟨hw.1,hQ⟩
  ·exact hw.elim
def zC (P:Program) (nm:Nat) (o:av) (t:List (Nat×AV)) (h:List (Nat×Ob)) (r:Rec):Prop:=
 (o.guard=none/\zB P nm o t h r)\/∃ g want,o.guard=some (g,want)/\
  ((get t g=some (.v (.bool want))/\zB P nm o t h r)\/(r=Rec.skip/\((get t g=some (.v (.bool (!want))))\/∃ xs,get t g=some (.v (.tuple xs)))))
theorem Kl:∀ (l:List av) (nm:Nat) (acc:List aW) (t:List (Nat×AV)) (h:List (Nat×Ob)) (Q:List aW->List (Nat×AV)->List (Nat×Ob)->Prop),
 jd P nm l acc t h Q->∃ rs:List Rec,rs.length=l.length/\Q ((rs.map foot).reverse++acc) (dL uT (l.zip rs) (fun _=>true) t) (dL uH (l.zip rs) (fun _=>true) h)/\
  ∀ j o r,l[j]? =some o->rs[j]? =some r->zC P (nm+8*j) o (dL uT (l.zip rs) (fun i=>decide (i<j)) t) (dL uH (l.zip rs) (fun i=>decide (i<j)) h) r
 |[],nm,acc,t,h,Q,hw=>⟨[],rfl,hw,fun j o r ho=>by simp at ho⟩
 |o::l,nm,acc,t,h,Q,hw=>by
  apply Classical.byContradiction
  intro hno
  have key:∀ r,zC P nm o t h r->jd P (nm+8) l (foot r::acc) (aV t o.dst r.val) (r.upd++h) Q->False:=by
   intro r hr hw
   obtain ⟨rs,h1,h2,h3⟩:=Kl l _ _ _ _ Q hw
   refine hno ⟨r::rs,by simp [h1],?_,fun j o' r' ho hr'=> ?_⟩
   ·simp only [List.map_cons,List.reverse_cons,List.append_assoc,List.singleton_append,List.zip_cons_cons,dL,cond_true]
    rw [<-Da]
    exact h2
   ·cases j with
    |zero=>
     simp only [List.getElem?_cons_zero,Option.some.injEq] at ho hr'
     subst ho;subst hr'
     simp only [Nat.mul_zero,Nat.add_zero,Nat.not_lt_zero,decide_false,wP]
     exact hr
    |succ j=>
     have:=h3 j o' r' (by simpa using ho) (by simpa using hr')
     have e1:nm+8+8*j=nm+8*(j+1):=by omega
     rw [e1] at this
     simp only [List.zip_cons_cons,dL,Nat.zero_lt_succ,decide_true,cond_true,Nat.add_lt_add_iff_right]
     rw [<-Da]
     exact this
  have Db:(∃ g want,o.guard=some (g,want)/\((get t g=some (.v (.bool (!want))))\/∃ xs,get t g=some (.v (.tuple xs))))->
   jd P (nm+8) l (([],[])::acc) (aV t o.dst (.v undef)) h Q->False:=fun hg hw=>
   key Rec.skip (.inr (by obtain ⟨g,want,e,hh⟩:=hg;exact ⟨g,want,e,.inr ⟨rfl,hh⟩⟩)) hw
  simp only [jd] at hw
  split at hw
  ·rename_i hg
   obtain ⟨r,hk,hr⟩:=Kk hw
   exact key r (.inl ⟨hg,hr⟩) hk
  ·rename_i g want hg
   unfold mO at hw
   split at hw
   ·rename_i b hb
    have Km:b=want->lN P nm o t h (fun r=>jd P (nm+8) l ((r.rd,r.upd.map Prod.fst)::acc) (aV t o.dst r.val) (r.upd++h) Q)->False:=fun e hw'=>by
     subst e
     obtain ⟨r,hk,hr⟩:=Kk hw'
     exact key r (.inr ⟨g,b,hg,.inl ⟨hb,hr⟩⟩) hk
    cases b<;>cases want
    ·exact Km rfl (hw.2 rfl)
    ·exact Db ⟨g,true,hg,.inl hb⟩ (hw.2 rfl)
    ·exact Db ⟨g,false,hg,.inl hb⟩ (hw.1 rfl)
    ·exact Km rfl (hw.1 rfl)
   ·rename_i xs hb
    exact Db ⟨g,want,hg,.inr ⟨xs,hb⟩⟩ hw
   ·exact hw.elim
end
theorem HR.ext {C:Ctx} {ρ:Nat->Loc} {U:Nat->Prop} {h h':List (Nat×Ob)} {w:World} (hr:HR C ρ U h w) (e:∀ b,get h' b=get h b):HR C ρ U h' w:=
 {hr with
  hp:=fun b o hb=>hr.hp b o (by rw [<-e];exact hb)
  hd:=fun b hb=>hr.hd b (by rw [<-e];exact hb)
  fix:=fun b l hb=>by
   obtain ⟨h1,h2,cs,h3⟩:=hr.fix b l hb
   exact ⟨h1,h2,cs,by rw [e];exact h3⟩}
theorem fQ.ext {C:Ctx} {ρ:Nat->Loc} {U:Nat->Prop} {t t':List (Nat×AV)} {h h':List (Nat×Ob)} {a:Act} {w:World} (hS:fQ C ρ U t h a w) (e1:∀ k,get t' k=get t k)
 (e2:∀ b,get h' b=get h b):fQ C ρ U t' h' a w:=
 ⟨hS.hr.ext e2,fun k x hk=>hS.tm k x (by rw [<-e1];exact hk),hS.defers,hS.sz⟩
section draw
variable {P:Program} {C:Ctx} {ops:Array Oper} {sl:List av} {rs:List Rec} {n:Nat} {t0:List (Nat×AV)} {h0:List (Nat×Ob)} {K:Exit->Act->World->Prop}
def Closed (sl:List av) (D:Nat->Bool):Prop:=∀ i o,D i=true->sl[i]? =some o->∀ e ∈ o.after,D e=true
def Inv (C:Ctx) (sl:List av) (rs:List Rec) (n:Nat) (t0:List (Nat×AV)) (h0:List (Nat×Ob)) (D:Nat->Bool) (a:Act) (w:World):Prop:=
 ∃ ρ U,fQ C ρ U (dL uT (sl.zip rs) D t0) (dL uH (sl.zip rs) D h0) a w/\(∀ b,U b->b<n\/∃ i,D i=true/\i<sl.length/\n+8*i<=b/\b<n+8*i+8)
theorem uP {x y:av×aW} (h:qf x y=true):
 (∀ d,x.1.dst=some d->d ∉ uses y.1/\y.1.dst≠some d)/\(∀ d,y.1.dst=some d->d ∉ uses x.1)/\
  (∀ b ∈ x.2.2,b ∉ y.2.1/\b ∉ y.2.2)/\(∀ b ∈ y.2.2,b ∉ x.2.1):=by
 simp only [qf,Bool.and_eq_true] at h
 obtain ⟨h1,h2,h3,h4,h5⟩:=h
 refine ⟨fun d hd=> ?_,fun d hd=> ?_,fun b hb=>⟨C9 h3 hb,C9 h4 hb⟩,fun b hb=>C9 h5 hb⟩
 ·rw [hd] at h1
  simpa using h1
 ·rw [hd] at h2
  simpa using h2
structure SH (sl:List av) (rs:List Rec) (D:Nat->Bool) (j:Nat) (o:av) (r:Rec):Prop where
 tr:∀ k ∈ uses o,∀ i x,(sl.zip rs)[i]? =some x->k ∈ keys (uT x)->D i=decide (i<j)
 hr:∀ b ∈ r.rd,∀ i x,(sl.zip rs)[i]? =some x->b ∈ keys (uH x)->D i=decide (i<j)
 tw:∀ i y,j<i->D i=true->(sl.zip rs)[i]? =some y->∀ k ∈ keys (uT (o,r)),k ∉ keys (uT y)
 hw:∀ i y,j<i->D i=true->(sl.zip rs)[i]? =some y->∀ k ∈ keys (uH (o,r)),k ∉ keys (uH y)
theorem zD {x:av×Rec} {k:Nat} (h:k ∈ keys (uT x)):x.1.dst=some k:=by
 unfold uT keys at h
 split at h
 ·rename_i d hd;simp at h;rw [hd,h]
 ·simp at h
theorem meets (hlen:rs.length=sl.length) (hok:nG sl (rs.map foot)=true) {D:Nat->Bool} (hD:Closed sl D) {j:Nat} {o:av} {r:Rec} (ho:sl[j]? =some o) (hr:rs[j]? =some r)
 (hj:D j=false) (hjr:∀ e ∈ o.after,D e=true):SH sl rs D j o r:=by
 simp only [nG,Bool.and_eq_true] at hok
 have jB:=C8 sl 0 hok.1
 have hp:=Kj _ _ _ 0 hok.2
 have hbef:CY (sl.map (·.after)) (uw [] (sl.map (·.after))):=Ki _ _ [] (by simp) (by simp) (fun j m h=>by simp at h)
 have hz:∀ (i:Nat) (x:av×Rec),(sl.zip rs)[i]? =some x->sl[i]? =some x.1/\rs[i]? =some x.2:=fun i x hx=>by
  rw [List.getElem?_zip_eq_some] at hx
  exact hx
 have zF:∀ (i:Nat) (x:av) (r':Rec),sl[i]? =some x->rs[i]? =some r'->(sl.zip (rs.map foot))[i]? =some (x,foot r'):=fun i x r' h1 h2=>by
  rw [List.getElem?_zip_eq_some]
  refine ⟨h1,?_⟩
  rw [List.getElem?_map,h2];rfl
 have SI:∀ (i:Nat) (af:List Nat),D i=true->(sl.map (·.after))[i]? =some af->∀ e ∈ af,D e=true:=fun i af hi jB=>by
  rw [List.getElem?_map] at jB
  cases hs:sl[i]? with
  |none=>rw [hs] at jB;simp at jB
  |some x=>rw [hs] at jB;simp at jB;subst jB;exact hD i x hi hs
 have hbit:∀ (i i':Nat) (x:av),sl[i]? =some x->(∀ e ∈ x.after,D e=true)->((uw [] (sl.map (·.after))).getD i 0).testBit i'=true->D i'=true:=fun i i' x hx hxe hb=>by
  rcases Nat.lt_or_ge i (uw [] (sl.map (·.after))).length with h1|h1
  ·refine hbef i _ (by rw [List.getD_eq_getElem?_getD,List.getElem?_eq_getElem h1];rfl) D SI (fun af jB=> ?_) i' hb
   rw [List.getElem?_map,hx] at jB
   simp at jB
   subst jB
   exact hxe
  ·rw [List.getD_eq_getElem?_getD,List.getElem?_eq_none h1] at hb
   simp at hb
 have hlo:∀ i x,i<j->(sl.zip rs)[i]? =some x->D i=true\/qf (x.1,foot x.2) (o,foot r)=true:=fun i x hi hx=>by
  obtain ⟨h1,h2⟩:=hz i x hx
  rcases hp j _ (zF j o r ho hr) i _ (by omega) (zF i x.1 x.2 h1 h2) with h|h
  ·rw [Nat.zero_add] at h
   exact .inl (hbit j i o ho hjr h)
  ·exact .inr h
 have hhi:∀ i x,j<i->D i=true->(sl.zip rs)[i]? =some x->qf (o,foot r) (x.1,foot x.2)=true:=fun i x hi hd hx=>by
  obtain ⟨h1,h2⟩:=hz i x hx
  rcases hp i _ (zF i x.1 x.2 h1 h2) j _ (by omega) (zF j o r ho hr) with h|h
  ·rw [Nat.zero_add] at h
   have:=hbit i j x.1 h1 (hD i x.1 hd h1) h
   rw [hj] at this;cases this
  ·exact h
 have hcase:∀ i x,(sl.zip rs)[i]? =some x->(i<j->qf (x.1,foot x.2) (o,foot r)=true->False)->(j<i->qf (o,foot r) (x.1,foot x.2)=true->False)->D i=decide (i<j):=fun i x hx h1 h2=>by
  rcases Nat.lt_trichotomy i j with hi|rfl|hi
  ·rw [decide_eq_true hi]
   exact (hlo i x hi hx).resolve_right (h1 hi)
  ·rw [decide_eq_false (by omega)];exact hj
  ·rw [decide_eq_false (by omega)]
   cases hd:D i with
   |false=>rfl
   |true=>exact (h2 hi (hhi i x hi hd hx)).elim
 refine ⟨fun k hk i x hx hm=>hcase i x hx (fun _ hc=> ?_) (fun _ hc=> ?_),fun b hb i x hx hm=>hcase i x hx (fun _ hc=> ?_) (fun _ hc=> ?_),fun i y hi hd hy k hk hk'=> ?_,fun i y hi hd hy k hk hk'=> ?_⟩
 ·exact ((uP hc).1 k (zD hm)).1 hk
 ·exact (uP hc).2.1 k (zD hm) hk
 ·exact ((uP hc).2.2.1 b hm).1 hb
 ·exact (uP hc).2.2.2 b hm hb
 ·exact ((uP (hhi i y hi hd hy)).1 k (zD hk)).2 (zD hk')
 ·exact ((uP (hhi i y hi hd hy)).2.2.1 k hk).2 hk'
theorem Dc {draw:Bool}:∀ (l:List Oper) (sl:List av),kG P ops draw l=some sl->l.length=sl.length/\∀ (j:Nat) (o:Oper),l[j]? =some o->∃ so,sl[j]? =some so/\mP P ops draw o=some so
 |[],sl,hs=>by
  simp only [kG,Option.some.injEq] at hs
  subst hs
  exact ⟨rfl,fun j o h=>by simp at h⟩
 |o::l,sl,hs=>by
  obtain ⟨so,sl',rfl,h1,h2⟩:=J6 hs
  obtain ⟨h3,h4⟩:=Dc l sl' h2
  refine ⟨by simp [h3],fun j o' h=> ?_⟩
  cases j with
  |zero=>simp at h;subst h;exact ⟨so,rfl,h1⟩
  |succ j=>simpa using h4 j o' (by simpa using h)
theorem SK {o:Oper} {so:av} (hs:mP P ops true o=some so):
 so.after=o.after.toList.filterMap fun e=>match e.ground with| .textOnly _=>none| .gcOnly _=>none|_=>some e.on:=by
 unfold mP at hs
 split at hs
 ·split at hs
  ·cases hs;rfl
  ·split at hs
   ·cases hs;rfl
   ·cases hs
 ·cases hs
theorem Kn {o:Oper} {so:av} (hs:mP P ops true o=some so) (D:Nat->Prop):
 (∀ e ∈ o.after,Region.binds .any e=true->D e.on)↔∀ i ∈ so.after,D i:=by
 rw [SK hs]
 constructor
 ·intro h i hi
  rw [List.mem_filterMap] at hi
  obtain ⟨e,he,h1⟩:=hi
  have hem:e ∈ o.after:=by simpa using he
  have:Region.binds .any e=true/\e.on=i:=by
   unfold Region.binds
   split at h1<;>simp_all
  rw [<-this.2];exact h e hem this.1
 ·intro h e he hb
  refine h e.on ?_
  rw [List.mem_filterMap]
  refine ⟨e,by simpa using he,?_⟩
  unfold Region.binds at hb
  split at hb<;>simp_all
theorem Ko:∀ (sl:List av) {nt:Nat},oJ nt sl=true->∀ (j:Nat) (o:av),sl[j]? =some o->∀ d,o.dst=some d->d<nt
 |[],_,_,j,o,h=>by simp at h
 |o::l,nt,h,j,o',h'=>by
  simp only [oJ,Bool.and_eq_true] at h
  cases j with
  |zero=>
   simp at h';subst h'
   intro d hd
   have:=h.1
   rw [hd] at this
   simpa using this
  |succ j=>exact Ko l h.2 j o' (by simpa using h')
theorem SL (hs:kG P ops true ops.toList=some sl) (hdst:oJ C.nt sl=true) (hlen:rs.length=sl.length) (hok:nG sl (rs.map foot)=true)
 (hst:∀ j o r,sl[j]? =some o->rs[j]? =some r->zC P (n+8*j) o (dL uT (sl.zip rs) (fun i=>decide (i<j)) t0) (dL uH (sl.zip rs) (fun i=>decide (i<j)) h0) r)
 {D:Nat->Bool} (hD:Closed sl D) {j:Nat} {o:Oper} {so:av} (ho:ops[j]? =some o) (hso:sl[j]? =some so) (hs1:mP P ops true o=some so) (hj:D j=false) (hjr:∀ e ∈ so.after,D e=true)
 {a:Act} {w:World} (hI:Inv C sl rs n t0 h0 D a w) {next:Act->World->Prop} (hn:∀ a w,Inv C sl rs n t0 h0 (iJ D j) a w->next a w):
 wpOp P ops K j next a w:=by
 obtain ⟨r,hr⟩:∃ r,rs[j]? =some r:=by
  have:j<rs.length:=by rw [hlen];exact (List.getElem?_eq_some_iff.1 hso).1
  exact ⟨_,List.getElem?_eq_getElem this⟩
 have hz:(sl.zip rs)[j]? =some (so,r):=by rw [List.getElem?_zip_eq_some];exact ⟨hso,hr⟩
 have hm:=meets hlen hok hD hso hr hj hjr
 obtain ⟨h1,h2,h3,h4⟩:=J5 hs1
 obtain ⟨ρ,U,hS,hU⟩:=hI
 have hrt:∀ k ∈ uses so,get (dL uT (sl.zip rs) D t0) k=get (dL uT (sl.zip rs) (fun i=>decide (i<j)) t0) k:=fun k hk=>
  rW _ _ _ _ _ k rfl fun i x hx hm'=>hm.tr k hk i x hx hm'
 have SN:∀ b ∈ r.rd,get (dL uH (sl.zip rs) D h0) b=get (dL uH (sl.zip rs) (fun i=>decide (i<j)) h0) b:=fun b hb=>
  rW _ _ _ _ _ b rfl fun i x hx hm'=>hm.hr b hb i x hx hm'
 have hdj:∀ d,o.dst=some d->d<C.nt:=fun d hd=>Ko sl hdst j so hso d (by rw [h2];exact hd)
 have hend:∀ a' w' ρ' U',fQ C ρ' U' (aV (dL uT (sl.zip rs) D t0) so.dst r.val) (r.upd++dL uH (sl.zip rs) D h0) a' w'->(∀ b,U' b->U b\/(n+8*j<=b/\b<n+8*j+8))->next a' w':=
  fun a' w' ρ' U' hS' iI=>hn a' w' ⟨ρ',U',hS'.ext (fun k=>by rw [Da];exact Kg hz hj hm.tw k) (fun b=>Kg hz hj hm.hw b),fun b hb=>by
   rcases iI b hb with h|h
   ·rcases hU b h with h|⟨i,hi,h⟩
    ·exact .inl h
    ·exact .inr ⟨i,by simp [iJ,hi],h⟩
   ·exact .inr ⟨j,by simp [iJ],(List.getElem?_eq_some_iff.1 hso).1,h⟩⟩
 have hfr:∀ b,U b->¬ (n+8*j<=b/\b<n+8*j+8):=fun b hb hh=>by
  rcases hU b hb with h|⟨i,hi,h⟩
  ·omega
  ·have:i=j:=by omega
   subst this
   rw [hj] at hi;cases hi
 have hact:zB P (n+8*j) so (dL uT (sl.zip rs) (fun i=>decide (i<j)) t0) (dL uH (sl.zip rs) (fun i=>decide (i<j)) h0) r->
  (∀ k ∈ oH (oG so.op),k ∈ uses so)->o.wp P a w next K:=fun hA hu=>by
  have:=hA _ _ (fun k hk=>hrt k (hu k hk)) SN (fun t' h'=>t'=aV (dL uT (sl.zip rs) D t0) so.dst r.val/\h'=r.upd++dL uH (sl.zip rs) D h0) ⟨rfl,rfl⟩
  obtain ⟨dst,op,gd,af⟩:=so
  simp only at h1 h2
  subst h2
  refine J3 h1 hS hfr hdj this fun t' h' a' w' ρ' U' hS' iI hQ=> ?_
  obtain ⟨rfl,rfl⟩:=hQ
  exact hend a' w' ρ' U' hS' iI
 have uN:r=Rec.skip->next (a.put o.dst undef) w:=fun e=>by
  refine hend _ _ ρ U ?_ fun b hb=> .inl hb
  subst e
  have:=hS.skip (dst:=o.dst) hdj
  rw [h2]
  exact this
 unfold wpOp
 rw [ho]
 simp only
 rcases hst j so r hso hr with ⟨hg,hA⟩|⟨g,want,hg,hh⟩
 ·have hg':=h3.1 hg
  have:Region.wanted o (yielded ops a.tmps)=true:=by simp [Region.wanted,hg']
  rw [if_pos this]
  exact .inl (hact hA (fun k hk=>by unfold uses;rw [hg];exact hk))
 ·obtain ⟨j',hj',hjd⟩:=h4 g want hg
  have hgu:g ∈ uses so:=by unfold uses;rw [hg];exact List.mem_cons_self ..
  have hgt:=hrt g hgu
  rcases hh with ⟨hb,hA⟩|⟨e,hb|⟨xs,hb⟩⟩
  ·rw [hb] at hgt
   obtain ⟨u,hu,hv⟩:=hS.tm g _ hgt
   have:=hv.bR
   subst this
   rw [CW hj' hjd hu]
   simp only [beq_self_eq_true,if_true]
   exact .inl (hact hA (fun k hk=>by unfold uses;rw [hg];exact List.mem_cons_of_mem _ hk))
  ·rw [hb] at hgt
   obtain ⟨u,hu,hv⟩:=hS.tm g _ hgt
   have:=hv.bR
   subst this
   rw [CW hj' hjd hu]
   have:((!want)==want)=false:=by cases want<;>rfl
   rw [this]
   exact uN e
  ·rw [hb] at hgt
   obtain ⟨u,hu,hv⟩:=hS.tm g _ hgt
   have:=hv.bR
   subst this
   rw [J7 hj' hjd hu]
   exact uN e
theorem Kq {D:Nat->Bool} {j:Nat}:∀ (l:List Nat),j ∉ l->l.countP (fun i=> !(iJ D j i))=l.countP (fun i=> !(D i))
 |[],_=>rfl
 |x::l,h=>by
  simp only [List.mem_cons,not_or] at h
  have e:iJ D j x=D x:=by simp [iJ,Ne.symm h.1]
  rw [List.countP_cons,List.countP_cons,Kq l h.2,e]
theorem Kr {D:Nat->Bool} {j:Nat} (hj:D j=false):∀ (l:List Nat),l.Nodup->j ∈ l->l.countP (fun i=> !(iJ D j i))+1=l.countP (fun i=> !(D i))
 |[],_,h=>by simp at h
 |x::l,hn,h=>by
  rw [List.nodup_cons] at hn
  rcases List.mem_cons.1 h with rfl|h
  ·rw [List.countP_cons,List.countP_cons,Kq l hn.1]
   simp [iJ,hj]
  ·have hx:x≠j:=fun e=>hn.1 (e▸h)
   have e:iJ D j x=D x:=by simp [iJ,hx]
   have:=Kr hj l hn.2 h
   rw [List.countP_cons,List.countP_cons,e]
   omega
def iT (listed:Array Bool):Nat->Bool:=fun i=>listed.getD i false
theorem SQ {listed:Array Bool} {j:Nat} (hj:j<listed.size):iT (listed.setIfInBounds j true)=iJ (iT listed) j:=by
 funext i
 unfold iT iJ
 by_cases e:i=j
 ·subst e;simp [hj]
 ·rw [getD_set_ne false (Ne.symm e)]
  have:(i==j)=false:=by simp [e]
  rw [this,Bool.or_false]
theorem Df {listed:Array Bool} {j:Nat} (hj:j<listed.size):listed.getD j true=listed.getD j false:=by
 simp [hj]
theorem SS (hs:kG P ops true ops.toList=some sl) (hdst:oJ C.nt sl=true) (hlen:rs.length=sl.length) (hok:nG sl (rs.map foot)=true)
 (hst:∀ j o r,sl[j]? =some o->rs[j]? =some r->zC P (n+8*j) o (dL uT (sl.zip rs) (fun i=>decide (i<j)) t0) (dL uH (sl.zip rs) (fun i=>decide (i<j)) h0) r)
 (hend:∀ D a w,(∀ i,i<ops.size->D i=true)->Inv C sl rs n t0 h0 D a w->K .normal a w):
 ∀ (fuel:Nat) (listed:Array Bool) (a:Act) (w:World),listed.size=ops.size->Closed sl (iT listed)->(List.range ops.size).countP (fun i=> !(iT listed i))<=fuel->
  Inv C sl rs n t0 h0 (iT listed) a w->wpAny P .any ops K fuel listed a w:=by
 obtain ⟨hl,hget⟩:=Dc ops.toList sl hs
 have SV:uz 0 sl=true:=by
  simp only [nG,Bool.and_eq_true] at hok
  exact hok.1
 have SX:∀ (listed:Array Bool) (j:Nat) (o:Oper) (so:av),listed.size=ops.size->ops[j]? =some o->sl[j]? =some so->mP P ops true o=some so->iT listed j=false->
  (∀ e ∈ so.after,iT listed e=true)->j ∈ Region.ready .any ops listed:=fun listed j o so hsz ho hso h1 hj he=>by
  have hlt:j<ops.size:=(Array.getElem?_eq_some_iff.1 ho).1
  rw [mem_ready]
  refine ⟨by rw [Df (by omega)];exact hj,o,ho,?_⟩
  exact (Kn h1 fun i=>iT listed i=true).2 he
 have hall:∀ (listed:Array Bool),listed.size=ops.size->Region.ready .any ops listed=[]->∀ i,i<ops.size->iT listed i=true:=fun listed hsz hr i=>by
  induction i using Nat.strongRecOn with
  |_ i ih=>
   intro hi
   apply Classical.byContradiction
   intro hne
   have hne':iT listed i=false:=by simpa using hne
   obtain ⟨so,hso,h1⟩:=hget i ops[i] (by simp [hi])
   have:=SX listed i ops[i] so hsz (by simp [hi]) hso h1 hne' fun e he=>by
    have:=C8 sl 0 SV i so hso e he
    exact ih e (by omega) (by omega)
   rw [hr] at this
   simp at this
 intro fuel
 induction fuel with
 |zero=>
  intro listed a w hsz hc hf hI
  have hdone:∀ i,i<ops.size->iT listed i=true:=fun i hi=>by
   have h0:(List.range ops.size).countP (fun i=> !(iT listed i))=0:=by omega
   rw [List.countP_eq_zero] at h0
   have:=h0 i (by simpa using hi)
   simpa using this
  refine ⟨?_,hend _ a w hdone hI⟩
  apply List.eq_nil_iff_forall_not_mem.2
  intro j hj
  rw [mem_ready] at hj
  obtain ⟨h1,o,ho,_⟩:=hj
  have hlt:j<ops.size:=(Array.getElem?_eq_some_iff.1 ho).1
  rw [Df (by omega)] at h1
  have:=hdone j hlt
  unfold iT at this
  rw [h1] at this;cases this
 |succ fuel ih=>
  intro listed a w hsz hc hf hI
  refine ⟨fun hr=>hend _ a w (hall listed hsz hr) hI,fun j hj=> ?_⟩
  rw [mem_ready] at hj
  obtain ⟨h1,o,ho,hb⟩:=hj
  have hlt:j<ops.size:=(Array.getElem?_eq_some_iff.1 ho).1
  obtain ⟨so,hso,hs1⟩:=hget j o (by simpa using ho)
  have hjr:=(Kn hs1 fun i=>iT listed i=true).1 hb
  have hj0:iT listed j=false:=by rw [Df (by omega)] at h1;exact h1
  refine SL hs hdst hlen hok hst hc ho hso hs1 hj0 hjr hI fun a' w' hI'=> ?_
  have e:=SQ (listed:=listed) (j:=j) (by omega)
  refine ih _ a' w' (by simp [hsz]) ?_ ?_ (by rw [e];exact hI')
  ·rw [e]
   intro i o' hi ho' x hx
   unfold iJ at hi
   simp only [Bool.or_eq_true,beq_iff_eq] at hi
   rcases hi with hi|rfl
   ·simp [iJ,hc i o' hi ho' x hx]
   ·rw [hso] at ho';cases ho'
    simp [iJ,hjr x hx]
  ·rw [e]
   have:=Kr hj0 (List.range ops.size) List.nodup_range (by simpa using hlt)
   omega
theorem fQ.world {ρ:Nat->Loc} {U:Nat->Prop} {t:List (Nat×AV)} {h:List (Nat×Ob)} {a:Act} {w w':World} (hS:fQ C ρ U t h a w) (e1:w'.heap=w.heap) (e2:w'.os=w.os)
 (e3:w'.tape=w.tape) (e4:w'.output=w.output):fQ C ρ U t h a w':=by
 obtain ⟨h1,h2⟩:=hS.hr.world e1 e2 e3 e4
 refine ⟨h1,fun k x hk=> ?_,hS.defers,hS.sz⟩
 obtain ⟨u,hu,hv⟩:=hS.tm k x hk
 exact ⟨u,hu,h2 _ _ hv⟩
theorem SY (hm:P.follows .mixedOrders=true) (hs:kG P ops true ops.toList=some sl) (hdst:oJ C.nt sl=true) {ρ:Nat->Loc} {U:Nat->Prop} {a:Act} {w:World}
 (hS:fQ C ρ U t0 h0 a w) (hU:∀ b,U b->b<n) {Q:List (Nat×AV)->List (Nat×Ob)->Prop} (hw:zh P n sl t0 h0 Q) {id:Nat}
 (hend:∀ t h a' w' ρ' U',fQ C ρ' U' t h a' w'->(∀ b,U' b->b<n+8*sl.length)->Q t h->K .normal a' w'):(Code.region id ops true).wp P K a w:=by
 obtain ⟨rs,hlen,⟨hok,hQ⟩,hst⟩:=Kl sl n [] t0 h0 _ hw
 simp only [List.append_nil,List.reverse_reverse] at hok
 have hl:=(Dc ops.toList sl hs).1
 simp only [Array.length_toList] at hl
 have hD0:iT (Array.replicate ops.size false)=fun _=>false:=by
  funext i
  unfold iT
  rcases Nat.lt_or_ge i ops.size with h|h<;>simp [h]
 refine wp_region_any hm (SS (n:=n) (t0:=t0) (h0:=h0) hs hdst hlen hok hst ?_ ops.size _ a _ (by simp) ?_ ?_ ?_)
 ·intro D a' w' hD hI
  obtain ⟨ρ',U',hS',iI⟩:=hI
  have hz:∀ i (x:av×Rec),(sl.zip rs)[i]? =some x->D i=true:=fun i x hx=>hD i (by
   rw [List.getElem?_zip_eq_some] at hx
   have:=(List.getElem?_eq_some_iff.1 hx.1).1
   omega)
  refine hend _ _ a' w' ρ' U' (hS'.ext (fun k=> ?_) (fun b=> ?_)) (fun b hb=> ?_) hQ
  ·exact rW _ _ _ _ _ k rfl fun i x hx _=>(hz i x hx).symm
  ·exact rW _ _ _ _ _ b rfl fun i x hx _=>(hz i x hx).symm
  ·rcases iI b hb with h|⟨i,hi,h⟩
   ·omega
   ·omega
 ·rw [hD0];intro i o hi;cases hi
 ·exact Nat.le_trans List.countP_le_length (by simp)
 ·rw [hD0]
  exact ⟨ρ,U,by rw [wP,wP];exact hS.world rfl rfl rfl rfl,fun b hb=> .inl (hU b hb)⟩
end draw
end Go.Eng
namespace Go.Eng
open Go
theorem least {p:Nat->Prop} (h:∃ n,p n):∃ n,p n/\∀ m,p m->n<=m:=by
 apply Classical.byContradiction
 intro hno
 have:∀ n,¬ p n:=fun n=>by
  induction n using Nat.strongRecOn with
  |_ n ih=>
   intro hp
   refine hno ⟨n,hp,fun m hm=> ?_⟩
   rcases Nat.lt_or_ge m n with h1|h1
   ·exact absurd hm (ih m h1)
   ·exact h1
 obtain ⟨n,hn⟩:=h
 exact this n hn
section
variable {P:Program} {C:Ctx}
def At (C:Ctx) (s:St) (a:Act) (w:World):Prop:=∃ ρ U,fQ C ρ U s.t s.h a w/\∀ b,U b->b<s.n
theorem Wk.at {s s':St} (h:Wk s s') {a:Act} {w:World} (hs:At C s a w):At C s' a w:=by
 obtain ⟨ρ,U,hS,hU⟩:=hs
 obtain ⟨ρ',U',hR,iI⟩:=h C ρ U a w ⟨hS.hr,hS.defers,hS.sz,hS.tm⟩ hU
 exact ⟨ρ',U',⟨hR.hr,hR.tm,hR.defers,hR.sz⟩,iI⟩
noncomputable def uQ {α:Type} (C:Ctx) (S:α->St) (μ:α->Nat) (a:Act) (w:World):Nat:=by
 classical
 exact if h:∃ n,∃ x,μ x=n/\At C (S x) a w then Classical.choose (least h) else 0
theorem zG {α:Type} {S:α->St} {μ:α->Nat} {a:Act} {w:World} {x:α} (h:At C (S x) a w):
 uQ C S μ a w<=μ x/\∃ y,μ y=uQ C S μ a w/\At C (S y) a w:=by
 have hx:∃ n,∃ x,μ x=n/\At C (S x) a w:=⟨_,x,rfl,h⟩
 have e:uQ C S μ a w=Classical.choose (least hx):=by
  unfold uQ
  rw [dif_pos hx]
 obtain ⟨h1,h2⟩:=Classical.choose_spec (least hx)
 rw [e]
 exact ⟨h2 _ ⟨x,rfl,h⟩,h1⟩
theorem rX (hm:P.follows .mixedOrders=true) (c:Code):∀ (sc:cK),fG P c=some sc->iH C.nt sc=true->
 ∀ (Q:Exit->St->Prop) (K:Exit->Act->World->Prop) (s:St) (a:Act) (w:World),At C s a w->fu P sc Q s->
  (∀ e s' a' w',At C s' a' w'->Q e s'->K e a' w')->c.wp P K a w:=by
 induction c with
 |skip=>
  intro sc hs _ Q K s a w hA hw hK
  cases hs
  exact wp_skip (hK _ _ _ _ hA hw)
 |region id ops draw=>
  intro sc hs hok Q K s a w hA hw hK
  simp only [fG] at hs
  split at hs
  ·rename_i l hl
   cases hs
   simp only [iH] at hok
   obtain ⟨ρ,U,hS,hU⟩:=hA
   simp only [fu] at hw
   cases draw with
   |true=>
    simp only [if_true] at hw
    exact SY hm hl hok hS hU hw fun t h a' w' ρ' U' hS' iI hQ=>hK _ ⟨_,t,h⟩ a' w' ⟨ρ',U',hS',iI⟩ hQ
   |false=>
    simp only [Bool.false_eq_true,if_false] at hw
    exact wp_region_list (Sz ops.toList l s.n s.t s.h a w ρ U hl hok hS hU hw fun t h a' w' ρ' U' hS' iI hQ=>hK _ ⟨_,t,h⟩ a' w' ⟨ρ',U',hS',iI⟩ hQ)
  ·cases hs
 |seq x y rY ihy=>
  intro sc hs hok Q K s a w hA hw hK
  simp only [fG] at hs
  split at hs
  ·rename_i x' hx
   split at hs
   ·rename_i y' hy
    cases hs
    simp only [iH,Bool.and_eq_true] at hok
    refine wp_seq (rY x' hx hok.1 _ _ s a w hA hw fun e s' a' w' hA' hQ=> ?_)
    cases e with
    |normal=>exact ihy y' hy hok.2 Q K s' a' w' hA' hQ hK
    |exit i=>exact hK _ _ _ _ hA' hQ
    |goto l=>exact hK _ _ _ _ hA' hQ
    |ret=>exact hK _ _ _ _ hA' hQ
    |panic ch=>exact hK _ _ _ _ hA' hQ
    |outgrown=>exact hK _ _ _ _ hA' hQ
   ·cases hs
  ·cases hs
 |cond c x y rY ihy=>
  intro sc hs hok Q K s a w hA hw hK
  simp only [fG] at hs
  split at hs
  ·rename_i x' hx
   split at hs
   ·rename_i y' hy
    cases hs
    simp only [iH,Bool.and_eq_true] at hok
    simp only [fu] at hw
    unfold mO at hw
    split at hw
    ·rename_i b hb
     have qm:=hA
     obtain ⟨ρ,U,hS,hU⟩:=hA
     have hc:=(aP hS.tm hb).bR
     exact wp_cond_split hc (fun hb=>rY x' hx hok.1 Q K s a w qm (hw.1 hb) hK) (fun hb=>ihy y' hy hok.2 Q K s a w qm (hw.2 hb) hK)
    ·exact hw.elim
    ·exact hw.elim
   ·cases hs
  ·cases hs
 |block id c ih=>
  intro sc hs hok Q K s a w hA hw hK
  simp only [fG] at hs
  split at hs
  ·rename_i c' hc
   cases hs
   simp only [iH] at hok
   refine wp_block (ih c' hc hok _ _ s a w hA hw fun e s' a' w' hA' hQ=> ?_)
   cases e with
   |exit i=>
    simp only [wE] at hQ
    simp only [Exit.inBlock]
    split
    ·rename_i h;rw [if_pos h] at hQ;exact hK _ _ _ _ hA' hQ
    ·rename_i h;rw [if_neg h] at hQ;exact hK _ _ _ _ hA' hQ
   |normal=>exact hK _ _ _ _ hA' hQ
   |goto l=>exact hK _ _ _ _ hA' hQ
   |ret=>exact hK _ _ _ _ hA' hQ
   |panic ch=>exact hK _ _ _ _ hA' hQ
   |outgrown=>exact hK _ _ _ _ hA' hQ
  ·cases hs
 |loop c ih=>
  intro sc hs hok Q K s a w hA hw hK
  simp only [fG] at hs
  split at hs
  ·rename_i c' hc
   cases hs
   simp only [iH] at hok
   obtain ⟨α,S,μ,a0,hW,hb⟩:=hw
   refine wp_loop (fun a w=>∃ x,At C (S x) a w) (uQ C S μ) ⟨a0,hW.at hA⟩ fun a w hI=> ?_
   obtain ⟨x0,hx0⟩:=hI
   obtain ⟨_,x,hx,hA'⟩:=zG (μ:=μ) hx0
   refine ih c' hc hok _ _ (S x) a w hA' (hb x) fun e s' a' w' kI hQ=> ?_
   cases e with
   |normal=>
    obtain ⟨x',hlt,hW'⟩:=hQ
    have h1:=hW'.at kI
    refine ⟨⟨x',h1⟩,?_⟩
    have:=(zG (μ:=μ) h1).1
    omega
   |exit i=>exact hK _ _ _ _ kI hQ
   |goto l=>exact hK _ _ _ _ kI hQ
   |ret=>exact hK _ _ _ _ kI hQ
   |panic ch=>exact hK _ _ _ _ kI hQ
   |outgrown=>exact hK _ _ _ _ kI hQ
  ·cases hs
 |exit id=>
  intro sc hs _ Q K s a w hA hw hK
  cases hs
  exact wp_exit (hK _ _ _ _ hA hw)
 |ret=>
  intro sc hs _ Q K s a w hA hw hK
  cases hs
  exact wp_ret (hK _ _ _ _ hA hw)
 |_=>intro sc hs;simp [fG] at hs
end
end Go.Eng
namespace Go.Eng
open Go
def jU (sz:Nat):Nat->List AV->List (List AV)
 |0,_=>[]
 |n+1,l=>l.take sz::jU sz n (l.drop sz)
theorem Kt {sz:Nat}:∀ (n:Nat) (l:List AV),l.length=n*sz->(jU sz n l).length=n/\∀ (k:Nat) e,(jU sz n l)[k]? =some e->e.length=sz/\∀ (j:Nat) c,e[j]? =some c->l[k*sz+j]? =some c
 |0,l,_=>⟨rfl,fun k e hk=>by simp [jU] at hk⟩
 |n+1,l,hl=>by
  have hm:(n+1)*sz=n*sz+sz:=Nat.succ_mul n sz
  obtain ⟨c1,c2⟩:=Kt (sz:=sz) n (l.drop sz) (by rw [List.length_drop];omega)
  refine ⟨by simp [jU,c1],fun k e hk=> ?_⟩
  cases k with
  |zero=>
   simp [jU] at hk
   subst hk
   refine ⟨by rw [List.length_take];omega,fun j c hj=> ?_⟩
   rw [List.getElem?_take] at hj
   split at hj
   ·rw [Nat.zero_mul,Nat.zero_add];exact hj
   ·cases hj
  |succ k=>
   simp only [jU,List.getElem?_cons_succ] at hk
   obtain ⟨g1,g2⟩:=c2 k e hk
   refine ⟨g1,fun j c hj=> ?_⟩
   have:=g2 j c hj
   rw [List.getElem?_drop] at this
   rw [Nat.succ_mul,show k*sz+sz+j=sz+(k*sz+j) by omega]
   exact this
section
variable (h:List (Nat×Ob)) (S:List (Nat×Nat)) (N:List Nat)
mutual
def rv:AV->AV->Prop
 | .own k sz off len,y=>match y with
  | .own b sz' off' len'=>get S k=some b/\sz=sz'/\off=off'/\len=len'
  | .v (.slice none 0 0)=>k ∈ N/\get S k=none/\len=0
  |_=>False
 | .ptr k j,y=>match y with
  | .ptr b j'=>get S k=some b/\j=j'
  |_=>False
 | .rp k sz i j,y=>match y with
  | .rp b sz' i' j'=>get S k=some b/\sz=sz'/\i=i'/\j=j'
  |_=>False
 | .mp k,y=>match y with
  | .mp b=>get S k=some b
  |_=>False
 | .sl sz ys,y=>match y with
  | .sl sz' xs=>sz=sz'/\ys=xs
  | .v (.slice none 0 0)=>ys=[]
  | .own b sz' off len=>b ∉ S.map Prod.snd/\sz=sz'/\match get h b with
   |some (.row _ bU xs)=>sz=bU/\off+len<=xs.length/\ys=(xs.drop off).take len
   |some (.box cs)=>4<=b/\off=0/\cs.length=len*sz/\bf cs=true/\jQ cs=true/\ys=jU sz len cs
   |_=>False
  |_=>False
 | .bB cs j,y=>match y with
  | .bB cs' j'=>cs=cs'/\j=j'
  | .rp b sz' i j'=>b ∉ S.map Prod.snd/\j=j'/\match get h b with
   |some (.row _ bU xs)=>sz'=bU/\i<xs.length/\cs=nth xs i
   |_=>False
  |_=>False
 | .agg ys,y=>match y with
  | .agg xs=>au ys xs
  |_=>False
 | .aN ys,y=>match y with
  | .aN xs=>au ys xs
  |_=>False
 | .fn f ys,y=>match y with
  | .fn g xs=>f=g/\au ys xs
  |_=>False
 | .v a,y=>y= .v a
def au:List AV->List AV->Prop
 |[],[]=>True
 |y::ys,x::xs=>rv y x/\au ys xs
 |_,_=>False
end
def kJ:List (Value×AV)->List (Value×AV)->Prop
 |[],[]=>True
 |(k,y)::l,(k',x)::l'=>k=k'/\rv h S N y x/\kJ l l'
 |_,_=>False
def aR:Ob->Ob->Prop
 | .box ys,.box xs=>au h S N ys xs
 | .row e sz ys,.row e' sz' xs=>e=e'/\sz=sz'/\ys=xs
 | .map ys,.map xs=>kJ h S N ys xs
 |_,_=>False
def bq (h':List (Nat×Ob)):List (Nat×Nat)->Prop
 |[]=>True
 |(k,b)::l=>(match get h' k,get h b with
  |some y,some x=>aR h S N y x
  |_,_=>False)/\bq h' l
def gG (h':List (Nat×Ob)):List Nat->Prop
 |[]=>True
 |k::l=>(match get h' k with
  |some (.row _ _ xs)=>xs=[]
  |_=>False)/\gG h' l
def bQ (t:List (Nat×AV)):List (Nat×AV)->Prop
 |[]=>True
 |(k,y)::l=>(match get t k with
  |some x=>rv h S N y x
  |none=>False)/\bQ t l
def kK (b:Nat):Bool:=match get h b with
 |some (.box _)=>get S b==some b
 |_=>true
def fw (h':List (Nat×Ob)):Bool:=
 decide ((S.map Prod.snd).Nodup)&&(N.all (fun k=> !(S.map Prod.fst).contains k)&&((h'.map Prod.fst).all (fun k=>(S.map Prod.fst).contains k||N.contains k)&&
  (kK h S 0&&(kK h S 1&&(kK h S 2&&kK h S 3)))))
end
theorem get_mem {α:Type} {l:List (Nat×α)} {k:Nat} {x:α} (h:get l k=some x):(k,x) ∈ l:=by
 induction l with
 |nil=>simp [get] at h
 |cons p l ih=>
  obtain ⟨a,b⟩:=p
  simp only [get] at h
  split at h
  ·rename_i e;cases h;subst e;exact List.mem_cons_self ..
  ·exact List.mem_cons_of_mem _ (ih h)
theorem qo {α:Type} {l:List (Nat×α)} {k:Nat} (h:k ∈ l.map Prod.fst):∃ x,get l k=some x:=by
 induction l with
 |nil=>simp at h
 |cons p l ih=>
  obtain ⟨a,b⟩:=p
  simp only [List.map_cons,List.mem_cons] at h
  simp only [get]
  by_cases e:a=k
  ·exact ⟨b,by rw [if_pos e]⟩
  ·rw [if_neg e];exact ih (h.resolve_left fun h=>e h.symm)
section
variable {C:Ctx} {ρ:Nat->Loc} {U:Nat->Prop} {h h':List (Nat×Ob)} {S:List (Nat×Nat)} {N:List Nat} {w:World}
def bK (ρ:Nat->Loc) (S:List (Nat×Nat)) (N:List Nat) (k:Nat):Loc:=match get S k with
 |some b=>ρ b
 |none=>if k ∈ N then .nil else .dead
def iK (S:List (Nat×Nat)) (N:List Nat) (k:Nat):Prop:=k ∈ S.map Prod.fst\/k ∈ N
theorem wR {k b:Nat} (h:get S k=some b):iK S N k:= .inl (List.mem_map.2 ⟨_,get_mem h,rfl⟩)
theorem rZ {k b:Nat} (h:get S k=some b):bK ρ S N k=ρ b:=by simp [bK,h]
theorem zH {g:Nat} (ho:gX (bK ρ S N) g):gX ρ g/\∃ k b o n,get S k=some b/\ρ b= .at g o n:=by
 obtain ⟨k,o,n,hk⟩:=ho
 unfold bK at hk
 split at hk
 ·rename_i b hb
  exact ⟨⟨b,o,n,hk⟩,k,b,o,n,hb,hk⟩
 ·split at hk<;>cases hk
theorem Ku {g:Nat} (hg:ay C ρ w g):ay C (bK ρ S N) w g:=⟨hg.1,hg.2.1,fun ho=>hg.2.2 (zH ho).1⟩
theorem fT:∀ (ys xs:List AV),au h S N ys xs->ys.length=xs.length
 |[],[],_=>rfl
 |_::ys,_::xs,h=>by simp only [au] at h;simp [fT ys xs h.2]
 |[],_::_,h=>by simp [au] at h
 |_::_,[],h=>by simp [au] at h
theorem fU:∀ (ys xs:List AV),au h S N ys xs->∀ (i:Nat) (y:AV),ys[i]? =some y->∃ x,xs[i]? =some x/\rv h S N y x
 |[],[],_,i,y,hy=>by simp at hy
 |y::ys,x::xs,h,0,z,hz=>by
  simp only [au] at h
  simp at hz;subst hz
  exact ⟨x,rfl,h.1⟩
 |y::ys,x::xs,h,i+1,z,hz=>by
  simp only [au] at h
  simpa using fU ys xs h.2 i z (by simpa using hz)
 |[],_::_,h,_,_,_=>by simp [au] at h
 |_::_,[],h,_,_,_=>by simp [au] at h
theorem VP.new {x:AV} {u:Value} (hv:VP w (ay C ρ w) x u):VP w (ay C (bK ρ S N) w) x u:=hv.mono (fun _=>Ku) (fun _ _=>rfl)
theorem Kv (hr:HR C ρ U h w) {b g o n:Nat} {e:TypeId} {sz:Nat} {xs:List (List AV)} (hb:get h b=some (.row e sz xs)) (hl:ρ b= .at g o n) (hS:b ∉ S.map Prod.snd):
 ay C (bK ρ S N) w g:=by
 obtain ⟨h1,h2⟩:=hr.bN g ⟨b,o,n,hl⟩
 refine ⟨?_,h2,fun ho=> ?_⟩
 ·rcases h1 with h1|h1
  ·obtain ⟨b',o',n',hb'⟩:=C.rO g h1
   obtain ⟨h3,_,cs,h4⟩:=hr.fix b' _ hb'
   have:=hr.inj b b' g o n o' n' hl h3
   subst this
   rw [hb] at h4;cases h4
  ·exact .inr h1
 ·obtain ⟨_,k,b',o',n',hk,hb'⟩:=zH ho
  have:=hr.inj b b' g o n o' n' hl hb'
  subst this
  exact hS (List.mem_map.2 ⟨_,get_mem hk,rfl⟩)
theorem S9 (hr:HR C ρ U h w) {b g o n:Nat} (h4:4<=b) (hl:ρ b= .at g o n) (hS:b ∉ S.map Prod.snd):ay C (bK ρ S N) w g:=by
 obtain ⟨h1,h2⟩:=hr.bN g ⟨b,o,n,hl⟩
 refine ⟨?_,h2,fun ho=> ?_⟩
 ·rcases h1 with h1|h1
  ·obtain ⟨b',o',n',hb'⟩:=C.rO g h1
   obtain ⟨h3,_⟩:=hr.fix b' _ hb'
   have:=hr.inj b b' g o n o' n' hl h3
   have:=C.wh b' _ hb'
   omega
  ·exact .inr h1
 ·obtain ⟨_,k,b',o',n',hk,hb'⟩:=zH ho
  have:=hr.inj b b' g o n o' n' hl hb'
  subst this
  exact hS (List.mem_map.2 ⟨_,get_mem hk,rfl⟩)
theorem Kw {b g o n:Nat} {e:TypeId} {sz:Nat} {xs:List (List AV)} (hr:HR C ρ U h w) (hb:get h b=some (.row e sz xs)) (hl:ρ b= .at g o n):
 (∀ (k:Nat) (x:List AV),xs[k]? =some x->x.length=sz)/\∃ f:Nat->Value,∀ (k:Nat) (x:List AV) (j:Nat) (c:AV),xs[k]? =some x->x[j]? =some c->
  w.cell? ⟨g,o+(k*sz+j),none⟩=some (f (k*sz+j))/\(f (k*sz+j)).oneCell'=true/\VP w (ay C ρ w) c (f (k*sz+j)):=by
 obtain ⟨_,ho⟩:=hr.hp b _ hb
 rw [hl] at ho
 rcases ho with ⟨h1,_⟩|⟨g',o',n',cells,h1,h2,h3,h4,h5,h6⟩
 ·cases h1
 ·cases h1
  refine ⟨h5,fun i=>(cells[o+i]?).getD undef,fun k x j c hk hj=> ?_⟩
  obtain ⟨u,hu,h7,h8⟩:=h6 k x j c hk hj
  simp only [hu,Option.getD_some]
  exact ⟨by simp [World.cell?,h2,hu],h7,h8⟩
theorem Ta (hr:HR C ρ U h w) {x:AV} {u:Value} (hv:VP w (ay C ρ w) x u):∀ x',rv h S N x' x->VR w (ay C (bK ρ S N) w) (bK ρ S N) (iK S N) x' u:=by
 induction hv with
 |v a=>
  intro x' hx
  cases x' with
  |v b=>
   simp only [rv] at hx
   cases hx;exact .p (.v _)
  |sl sz ys=>
   unfold rv at hx
   split at hx
   ·rename_i e;cases e
   ·rename_i e;cases e;subst hx;exact .p .fo
   ·rename_i e;cases e
   ·exact hx.elim
  |own k sz off len=>
   unfold rv at hx
   split at hx
   ·rename_i e;cases e
   ·rename_i e;cases e
    obtain ⟨hN,hS,rfl⟩:=hx
    refine .own (.inr hN) ⟨⟨_,_,_,rfl⟩,?_⟩
    have:bK ρ S N k= .nil:=by simp [bK,hS,hN]
    rw [this];exact ⟨rfl,rfl⟩
   ·exact hx.elim
  |_=>simp only [rv] at hx
 |agg hl hc ih=>
  intro x' hx
  cases x'<;>simp only [rv] at hx<;>try (cases hx;done)
  have h1:=fT _ _ hx
  refine .agg (by omega) fun i c u hi hu=> ?_
  obtain ⟨x,h2,h3⟩:=fU _ _ hx i c hi
  exact ih i x u h2 hu c h3
 |aN hl hc ih=>
  intro x' hx
  cases x'<;>simp only [rv] at hx<;>try (cases hx;done)
  have h1:=fT _ _ hx
  refine .aN (by omega) fun i c u hi hu=> ?_
  obtain ⟨x,h2,h3⟩:=fU _ _ hx i c hi
  exact ih i x u h2 hu c h3
 |fn hf hl hc ih=>
  intro x' hx
  cases x'<;>simp only [rv] at hx<;>try (cases hx;done)
  obtain ⟨rfl,hx⟩:=hx
  have h1:=fT _ _ hx
  refine .fn hf (by omega) fun i c u hi hu=> ?_
  obtain ⟨x,h2,h3⟩:=fU _ _ hx i c hi
  exact ih i x u h2 hu c h3
 |jN h hc ih=>
  intro x' hx
  cases x'<;>simp only [rv] at hx<;>try (cases hx;done)
  obtain ⟨rfl,hx⟩:=hx
  rename_i ys
  match ys,hx with
  |[y],hx=>
   simp only [au,and_true] at hx
   have h2:=ih y hx
   cases y<;>simp only [rv] at hx<;>try (cases hx;done)
   obtain ⟨rfl,rfl⟩:=hx
   exact .p (.jN h2.ou hc)
  |[],hx=>simp only [au] at hx
  |_::_::_,hx=>simp only [au,and_false] at hx
 |fo=>
  intro x' hx
  cases x'<;>simp only [rv] at hx<;>try (cases hx;done)
  obtain ⟨rfl,rfl⟩:=hx
  exact .p .fo
 |sl a n cap f hn hcap hk hl hc hv ih=>
  intro x' hx
  cases x'<;>simp only [rv] at hx<;>try (cases hx;done)
  obtain ⟨rfl,rfl⟩:=hx
  exact .p (VP.new (.sl a n cap f hn hcap hk hl hc hv))
 |bB g o f hk hc hv ih=>
  intro x' hx
  cases x'<;>simp only [rv] at hx<;>try (cases hx;done)
  obtain ⟨rfl,rfl⟩:=hx
  exact .p (VP.new (.bB g o f hk hc hv))
theorem jC (hr:HR C ρ U h w) {x:AV} {u:Value} (hv:VR w (ay C ρ w) ρ U x u):∀ x',rv h S N x' x->VR w (ay C (bK ρ S N) w) (bK ρ S N) (iK S N) x' u:=by
 induction hv with
 |p hv=>exact Ta hr hv
 |agg hl hc ih=>
  intro x' hx
  cases x'<;>simp only [rv] at hx<;>try (cases hx;done)
  have h1:=fT _ _ hx
  refine .agg (by omega) fun i c u hi hu=> ?_
  obtain ⟨x,h2,h3⟩:=fU _ _ hx i c hi
  exact ih i x u h2 hu c h3
 |aN hl hc ih=>
  intro x' hx
  cases x'<;>simp only [rv] at hx<;>try (cases hx;done)
  have h1:=fT _ _ hx
  refine .aN (by omega) fun i c u hi hu=> ?_
  obtain ⟨x,h2,h3⟩:=fU _ _ hx i c hi
  exact ih i x u h2 hu c h3
 |fn hf hl hc ih=>
  intro x' hx
  cases x'<;>simp only [rv] at hx<;>try (cases hx;done)
  obtain ⟨rfl,hx⟩:=hx
  have h1:=fT _ _ hx
  refine .fn hf (by omega) fun i c u hi hu=> ?_
  obtain ⟨x,h2,h3⟩:=fU _ _ hx i c hi
  exact ih i x u h2 hu c h3
 | @own b sz off len u hu ho=>
  intro x' hx
  cases x' with
  |own k sz' off' len'=>
   simp only [rv] at hx
   obtain ⟨h1,rfl,rfl,rfl⟩:=hx
   exact .own (wR h1) (by rw [rZ h1];exact ho)
  |sl sz' ys=>
   simp only [rv] at hx
   obtain ⟨hS,rfl,hx⟩:=hx
   split at hx
   ·rename_i e bU xs hb
    obtain ⟨rfl,hle,rfl⟩:=hx
    obtain ⟨_,iG⟩:=hr.hp b _ hb
    obtain ⟨_,ho⟩:=ho
    cases hl:ρ b with
    |dead=>
     rw [hl] at iG
     rcases iG with ⟨h1,_⟩|⟨g,o,n,cells,h1,_⟩<;>cases h1
    |nil=>
     rw [hl] at ho
     obtain ⟨rfl,rfl⟩:=ho
     simp only [List.take_zero]
     exact .p .fo
    |«at» g o n=>
     rw [hl] at ho
     obtain ⟨h5,f,hf⟩:=Kw hr hb hl
     have hok:=Kv (S:=S) (N:=N) hr hb hl hS
     have hlen:((xs.drop off).take len).length=len:=by simp;omega
     have hget:∀ (k:Nat) (x:List AV),((xs.drop off).take len)[k]? =some x->xs[off+k]? =some x:=fun k x hk=>by
      rw [List.getElem?_take] at hk
      split at hk
      ·rw [List.getElem?_drop] at hk;exact hk
      ·cases hk
     rcases ho with ⟨rfl,_,rfl|⟨a,rfl⟩⟩|⟨cap,h1,h2,rfl⟩
     ·simp only [List.take_zero]
      exact .p .fo
     ·simp only [List.take_zero]
      exact .p (.sl a 0 0 (fun _ _=>undef) rfl (Nat.le_refl _) (fun h=>absurd h (by simp)) (fun k e h=>by simp at h) (fun k e j c h=>by simp at h) (fun k e j c h=>by simp at h))
     ·refine .p (.sl ⟨g,o+off*sz',none⟩ len cap (fun k j=>f ((off+k)*sz'+j)) hlen.symm h1 (fun _=>⟨rfl,hok⟩) (fun k e hk=>h5 _ e (hget k e hk)) (fun k e j c hk hj=> ?_) (fun k e j c hk hj=> ?_))
      ·obtain ⟨h6,h7,_⟩:=hf _ e j c (hget k e hk) hj
       refine ⟨?_,h7⟩
       rw [<-h6]
       congr 2
       simp only [Nat.add_mul];omega
      ·exact (hf _ e j c (hget k e hk) hj).2.2.new
   ·rename_i cs hb
    obtain ⟨h4,rfl,hcl,hp,h1c,rfl⟩:=hx
    obtain ⟨_,g,o,n,e,cells,hl,hg,_,hn,hcc⟩:=hr.hp b _ hb
    obtain ⟨_,ho⟩:=ho
    rw [hl] at ho
    have hok:=S9 (S:=S) (N:=N) hr h4 hl hS
    obtain ⟨k1,k2⟩:=Kt len cs hcl
    rcases ho with ⟨rfl,_,rfl|⟨a,rfl⟩⟩|⟨cap,h1,h2,rfl⟩
    ·exact .p .fo
    ·exact .p (.sl a 0 0 (fun _ _=>undef) rfl (Nat.le_refl _) (fun h=>absurd h (by simp [jU])) (fun k e h=>by simp [jU] at h) (fun k e j c h=>by simp [jU] at h) (fun k e j c h=>by simp [jU] at h))
    ·have key:∀ (k:Nat) (x:List AV) (j:Nat) (c:AV),(jU sz' len cs)[k]? =some x->x[j]? =some c->∃ u,cells[o+(k*sz'+j)]? =some u/\VR w (ay C ρ w) ρ U c u/\c.pure=true/\c.one=true:=fun k x j c hk hj=>by
      have hc0:=(k2 k x hk).2 j c hj
      obtain ⟨u,hu,hv⟩:=hcc _ c hc0
      exact ⟨u,hu,hv,wF _ hp _ c hc0,Jy _ h1c _ c hc0⟩
     refine .p (.sl ⟨g,o+0*sz',none⟩ len cap (fun k j=>(cells[o+(k*sz'+j)]?).getD undef) k1.symm h1 (fun _=>⟨rfl,hok⟩) (fun k e hk=>(k2 k e hk).1) (fun k e j c hk hj=> ?_) (fun k e j c hk hj=> ?_))
     ·obtain ⟨u,hu,hv,_,h1'⟩:=key k e j c hk hj
      simp only [hu,Option.getD_some]
      refine ⟨?_,hv.one h1'⟩
      rw [uI hg,<-hu]
      congr 1;omega
     ·obtain ⟨u,hu,hv,hp',_⟩:=key k e j c hk hj
      simp only [hu,Option.getD_some]
      exact (VP.uF hv hp').new
   ·exact hx.elim
  |_=>simp only [rv] at hx<;>cases hx
 | @ptr b j a hu ho=>
  intro x' hx
  cases x'<;>simp only [rv] at hx<;>try (cases hx;done)
  obtain ⟨h1,rfl⟩:=hx
  exact .ptr a (wR h1) (by rw [rZ h1];exact ho)
 | @rp b sz k j a hu ho=>
  intro x' hx
  cases x' with
  |rp k' sz' i' j'=>
   simp only [rv] at hx
   obtain ⟨h1,rfl,rfl,rfl⟩:=hx
   exact .rp a (wR h1) (by rw [rZ h1];exact ho)
  |bB cs j'=>
   simp only [rv] at hx
   obtain ⟨hS,rfl,hx⟩:=hx
   split at hx
   ·rename_i e bU xs hb
    obtain ⟨rfl,hlt,rfl⟩:=hx
    obtain ⟨_,iG⟩:=hr.hp b _ hb
    cases hl:ρ b with
    |dead=>
     rw [hl] at iG
     rcases iG with ⟨h1,_⟩|⟨g,o,n,cells,h1,_⟩<;>cases h1
    |nil=>
     rw [hl] at iG
     rcases iG with ⟨_,rfl⟩|⟨g,o,n,cells,h1,_⟩
     ·simp at hlt
     ·cases h1
    |«at» g o n=>
     obtain ⟨h5,f,hf⟩:=Kw hr hb hl
     have hok:=Kv (S:=S) (N:=N) hr hb hl hS
     have hk:xs[k]? =some (nth xs k):=by simp [nth,hlt]
     have ha:=ho g o n hl
     subst ha
     have e1:o+(k*sz+j')=(o+k*sz)+j':=by omega
     rw [e1]
     refine .p (.bB g (o+k*sz) (fun i=>f (k*sz+i)) hok (fun i c hi=> ?_) (fun i c hi=> ?_))
     ·rw [<-(hf k _ i c hk hi).1]
      congr 2
      omega
     ·exact (hf k _ i c hk hi).2.2.new
   ·exact hx.elim
  |_=>simp only [rv] at hx<;>cases hx
 | @mp b r hu ho=>
  intro x' hx
  cases x'<;>simp only [rv] at hx<;>try (cases hx;done)
  exact .mp r (wR hx) (by rw [rZ hx];exact ho)
theorem Tc {h h':List (Nat×Ob)} (hS:fw h S N h'=true):(∀ k k' b,get S k=some b->get S k'=some b->k=k')/\(∀ k ∈ N,get S k=none)/\(∀ k o,get h' k=some o->k ∈ S.map Prod.fst\/k ∈ N)/\
 ∀ b,b<4->∀ cs,get h b=some (.box cs)->get S b=some b:=by
 simp only [fw,Bool.and_eq_true,decide_eq_true_eq,List.all_eq_true,Bool.not_eq_true',Bool.or_eq_true] at hS
 obtain ⟨h1,h2,h3,h4,h5,h6,h7⟩:=hS
 refine ⟨fun k k' b hk hk'=> ?_,fun k hk=> ?_,fun k o hk=> ?_,fun b hb cs hcs=> ?_⟩
 ·clear h2 h3 h4 h5 h6 h7
  induction S with
  |nil=>simp [get] at hk
  |cons p S ih=>
   obtain ⟨x,y⟩:=p
   simp only [List.map_cons,List.nodup_cons] at h1
   simp only [get] at hk hk'
   split at hk<;>split at hk'
   ·rename_i e1 e2;rw [<-e1,<-e2]
   ·cases hk
    exact absurd (List.mem_map.2 ⟨_,get_mem hk',rfl⟩) h1.1
   ·cases hk'
    exact absurd (List.mem_map.2 ⟨_,get_mem hk,rfl⟩) h1.1
   ·exact ih h1.2 hk hk'
 ·cases hg:get S k with
  |none=>rfl
  |some b=>
   have:=h2 k hk
   have hm:k ∈ S.map Prod.fst:=List.mem_map.2 ⟨_,get_mem hg,rfl⟩
   simp only [List.contains_iff_mem,List.contains_eq_mem,decide_eq_false_iff_not] at this
   exact absurd hm this
 ·have:=h3 k (List.mem_map.2 ⟨_,get_mem hk,rfl⟩)
  simpa using this
 ·have key:∀ b,kK h S b=true->∀ cs,get h b=some (.box cs)->get S b=some b:=fun b hb cs hcs=>by
   unfold kK at hb
   rw [hcs] at hb
   simpa using hb
  match b,hb with
  |0,_=>exact key 0 h4 cs hcs
  |1,_=>exact key 1 h5 cs hcs
  |2,_=>exact key 2 h6 cs hcs
  |3,_=>exact key 3 h7 cs hcs
theorem wS {h h':List (Nat×Ob)}:∀ (l:List (Nat×Nat)),bq h S N h' l->∀ k b,get l k=some b->∃ y x,get h' k=some y/\get h b=some x/\aR h S N y x
 |[],_,k,b,hk=>by simp [get] at hk
 |(k0,b0)::l,hh,k,b,hk=>by
  simp only [bq] at hh
  simp only [get] at hk
  split at hk
  ·rename_i e;cases hk;subst e
   obtain ⟨h1,_⟩:=hh
   split at h1
   ·rename_i y x hy hx;exact ⟨y,x,hy,hx,h1⟩
   ·exact h1.elim
  ·exact wS l hh.2 k b hk
theorem Dh {h':List (Nat×Ob)}:∀ (l:List Nat),gG h' l->∀ k ∈ l,∃ e sz,get h' k=some (.row e sz [])
 |[],_,k,hk=>by simp at hk
 |k0::l,hh,k,hk=>by
  simp only [gG] at hh
  rcases List.mem_cons.1 hk with rfl|hk
  ·obtain ⟨h1,_⟩:=hh
   split at h1
   ·rename_i e sz xs hg;subst h1;exact ⟨e,sz,hg⟩
   ·exact h1.elim
  ·exact Dh l hh.2 k hk
theorem Di:∀ (ys xs:List (Value×AV)),kJ h S N ys xs->ys.length=xs.length/\∀ (i:Nat) (k:Value) (y:AV),ys[i]? =some (k,y)->∃ x,xs[i]? =some (k,x)/\rv h S N y x
 |[],[],_=>⟨rfl,fun i k y h=>by simp at h⟩
 |(k,y)::l,(k',x)::l',hh=>by
  simp only [kJ] at hh
  obtain ⟨rfl,h2,h3⟩:=hh
  obtain ⟨h4,h5⟩:=Di l l' h3
  refine ⟨by simp [h4],fun i k0 y0 hi=> ?_⟩
  cases i with
  |zero=>simp at hi;obtain ⟨rfl,rfl⟩:=hi;exact ⟨x,rfl,h2⟩
  |succ i=>simpa using h5 i k0 y0 (by simpa using hi)
 |[],_::_,hh=>by simp [kJ] at hh
 |_::_,[],hh=>by simp [kJ] at hh
theorem uR (hr:HR C ρ U h w) (hS:fw h S N h'=true) (hH:bq h S N h' S) (hN:gG h' N):HR C (bK ρ S N) (iK S N) h' w:=by
 obtain ⟨inj,hNS,hdom,h4⟩:=Tc hS
 refine ⟨fun k o hk=> ?_,fun k hk=> ?_,fun k k' g o n o' n' h1 h2=> ?_,hr.os,hr.tape,hr.output,hr.size,hr.old,hr.jb,fun g ho=>hr.bN g (zH ho).1,fun b l hb=> ?_⟩
 ·refine ⟨hdom k o hk,?_⟩
  cases hg:get S k with
  |some b=>
   rw [rZ hg]
   obtain ⟨y,x,hy,hx,hv⟩:=wS S hH k b hg
   rw [hk] at hy;cases hy
   obtain ⟨_,iG⟩:=hr.hp b x hx
   cases o<;>cases x<;>simp only [aR] at hv
   ·rename_i ys xs
    obtain ⟨g,o,n,e,cells,h1,h2,h3,h5,h6⟩:=iG
    have hl:=fT _ _ hv
    refine ⟨g,o,n,e,cells,h1,h2,h3,by omega,fun j c hj=> ?_⟩
    obtain ⟨x,hx,hxv⟩:=fU _ _ hv j c hj
    obtain ⟨u,hu,huv⟩:=h6 j x hx
    exact ⟨u,hu,jC hr huv c hxv⟩
   ·obtain ⟨rfl,rfl,rfl⟩:=hv
    rcases iG with iG|⟨g,o,n,cells,h1,h2,h3,h5,h6,h7⟩
    ·exact .inl iG
    ·refine .inr ⟨g,o,n,cells,h1,h2,h3,h5,h6,fun k x j c hk hj=> ?_⟩
     obtain ⟨u,hu,h8,h9⟩:=h7 k x j c hk hj
     exact ⟨u,hu,h8,h9.new⟩
   ·obtain ⟨g,bG,clock,h1,h2,h3,h5⟩:=iG
    obtain ⟨hl,Dj⟩:=Di _ _ hv
    refine ⟨g,bG,clock,h1,h2,by omega,fun i k c m hi he=> ?_⟩
    obtain ⟨x,hx,hxv⟩:=Dj i k c hi
    exact ⟨(h5 i k x m hx he).1,jC hr (h5 i k x m hx he).2 c hxv⟩
  |none=>
   have hkN:k ∈ N:=by
    rcases hdom k o hk with h|h
    ·obtain ⟨b,hb⟩:=qo h
     rw [hg] at hb;cases hb
    ·exact h
   obtain ⟨e,sz,hrow⟩:=Dh N hN k hkN
   rw [hk] at hrow;cases hrow
   refine .inl ⟨?_,rfl⟩
   simp only [bK,hg,hkN,if_true]
 ·cases hg:get S k with
  |some b=>
   obtain ⟨y,x,hy,_⟩:=wS S hH k b hg
   rw [hk] at hy;cases hy
  |none=>
   have hkN:k ∉ N:=fun h=>by
    obtain ⟨e,sz,hrow⟩:=Dh N hN k h
    rw [hk] at hrow;cases hrow
   simp only [bK,hg,hkN,if_false]
 ·have key:∀ k g o n,bK ρ S N k= .at g o n->∃ b,get S k=some b/\ρ b= .at g o n:=fun k g o n hk=>by
   unfold bK at hk
   split at hk
   ·rename_i b hb;exact ⟨b,hb,hk⟩
   ·split at hk<;>cases hk
  obtain ⟨b,hb,hl⟩:=key k g o n h1
  obtain ⟨b',hb',hl'⟩:=key k' g o' n' h2
  have:=hr.inj b b' g o n o' n' hl hl'
  subst this
  exact inj k k' b hb hb'
 ·obtain ⟨h1,h2,cs,h3⟩:=hr.fix b l hb
  have hg:=h4 b (C.wh b l hb) cs h3
  refine ⟨by rw [rZ hg];exact h1,wR hg,?_⟩
  obtain ⟨y,x,hy,hx,hv⟩:=wS S hH b b hg
  rw [h3] at hx;cases hx
  cases y<;>simp only [aR] at hv
  exact ⟨_,hy⟩
theorem Wk.mk {s s':St} (S:List (Nat×Nat)) (N:List Nat) (hS:fw s.h S N s'.h=true) (hn:(S.map Prod.fst++N).all (fun k=>decide (k<s'.n))=true)
 (hH:bq s.h S N s'.h S) (hN:gG s'.h N) (hT:bQ s.h S N s.t s'.t):Wk s s':=by
 intro C ρ U a w hR hU
 refine ⟨bK ρ S N,iK S N,⟨uR hR.hr hS hH hN,hR.defers,hR.sz,fun k x' hk=> ?_⟩,fun b hb=> ?_⟩
 ·have key:∀ l,bQ s.h S N s.t l->get l k=some x'->∃ x,get s.t k=some x/\rv s.h S N x' x:=fun l=>by
   induction l with
   |nil=>intro _ h;simp [get] at h
   |cons p l ih=>
    obtain ⟨j,y⟩:=p
    intro h hg
    simp only [bQ] at h
    simp only [get] at hg
    split at hg
    ·rename_i e;cases hg;subst e
     obtain ⟨h1,_⟩:=h
     split at h1
     ·rename_i x hx;exact ⟨x,hx,h1⟩
     ·exact h1.elim
    ·exact ih h.2 hg
  obtain ⟨x,hx,hv⟩:=key s'.t hT hk
  obtain ⟨u,hu,fP⟩:=hR.tm k x hx
  exact ⟨u,hu,jC hR.hr fP x' hv⟩
 ·simp only [List.all_eq_true,List.mem_append,decide_eq_true_eq] at hn
  rcases hb with hb|hb
  ·exact hn b (.inl hb)
  ·exact hn b (.inr hb)
theorem Td {h h':List (Nat×Ob)} {S:List (Nat×Nat)} {N:List Nat} {t:List (Nat×AV)} {k:Nat} {x':AV}:∀ l,bQ h S N t l->get l k=some x'->∃ x,get t k=some x/\rv h S N x' x:=fun l=>by
 induction l with
 |nil=>intro _ h;simp [get] at h
 |cons p l ih=>
  obtain ⟨j,y⟩:=p
  intro h hg
  simp only [bQ] at h
  simp only [get] at hg
  split at hg
  ·rename_i e;cases hg;subst e
   obtain ⟨h1,_⟩:=h
   split at h1
   ·rename_i x hx;exact ⟨x,hx,h1⟩
   ·exact h1.elim
  ·exact ih h.2 hg
theorem wz.mk {t t':List (Nat×AV)} {h h':List (Nat×Ob)} (S:List (Nat×Nat)) (hid:S.all (fun p=>p.1==p.2)=true) (hS:fw h S [] h'=true) (hH:bq h S [] h' S) (hT:bQ h S [] t t'):wz t h t' h':=by
 intro C ρ U a w hR
 refine ⟨bK ρ S [],iK S [],⟨uR hR.hr hS hH (by simp only [gG]),hR.defers,hR.sz,fun k x' hk=> ?_⟩,fun b hb=> ?_⟩
 ·obtain ⟨x,hx,hv⟩:=Td (h':=h') t' hT hk
  obtain ⟨u,hu,fP⟩:=hR.tm k x hx
  exact ⟨u,hu,jC hR.hr fP x' hv⟩
 ·rcases hb with hb|hb
  ·obtain ⟨c,hc⟩:=qo hb
   have:=List.all_eq_true.1 hid _ (get_mem hc)
   simp only [beq_iff_eq] at this
   subst this
   obtain ⟨y,x,_,hx,_⟩:=wS S hH b b hc
   exact (hR.hr.hp b x hx).1
  ·simp at hb
end
end Go.Eng
namespace Go.Eng
open Go
inductive gY where
 |tmp (k:Nat)
 |cell (k:Nat) (ag:Bool) (sz:Nat)
def qp (P:Program):List ResultVar->Option (List gY)
 |[]=>some []
 | .tmp k::l=>match qp P l with
  |some r=>some (.tmp k::r)
  |none=>none
 | .cell k ty::l=>match bY P ty,aU P ty,qp P l with
  |some ag,some sz,some r=>some (.cell k ag sz::r)
  |_,_,_=>none
def gZ (t:List (Nat×AV)) (h:List (Nat×Ob)):List gY->Option (List AV)
 |[]=>some []
 | .tmp k::l=>match get t k,gZ t h l with
  |some x,some r=>some (x::r)
  |_,_=>none
 | .cell k ag sz::l=>match get t k,gZ t h l with
  |some (.ptr b 0),some r=>match get h b with
   |some (.box cs)=>if ag then (if sz=cs.length then some (.agg cs::r) else none) else match cs with
    |c::_=>some (c::r)
    |[]=>none
   |_=>none
  |_,_=>none
def aD:List AV->AV
 |[x]=>x
 |xs=> .aN xs
def uS (tmps:Array Value):ResultVar->Sem Value
 | .tmp t=>pure (tmps.getD t undef)
 | .cell a t=>do loadVar t (<-asAddr (tmps.getD a undef))
section
variable {P:Program} {C:Ctx} {ρ:Nat->Loc} {U:Nat->Prop} {h:List (Nat×Ob)} {w:World} {t:List (Nat×AV)} {a:Act}
theorem wT (hr:HR C ρ U h w) (ht:Tm C ρ U w t a):∀ (l:List ResultVar) (sl:List gY) (xs:List AV),qp P l=some sl->gZ t h sl=some xs->
 ∃ vs:List Value,vs.length=l.length/\xs.length=l.length/\(∀ (i:Nat) (x:ResultVar) (v:Value),l[i]? =some x->vs[i]? =some v->(uS a.tmps x).run P w= .ok v w)/\
  ∀ (i:Nat) (x:AV) (v:Value),xs[i]? =some x->vs[i]? =some v->VR w (ay C ρ w) ρ U x v
 |[],sl,xs,hs,hx=>by
  simp only [qp,Option.some.injEq] at hs
  subst hs
  simp only [gZ,Option.some.injEq] at hx
  subst hx
  exact ⟨[],rfl,rfl,fun i x v h=>by simp at h,fun i x v h=>by simp at h⟩
 | .tmp k::l,sl,xs,hs,hx=>by
  simp only [qp] at hs
  split at hs
  ·rename_i r hr'
   cases hs
   simp only [gZ] at hx
   split at hx
   ·rename_i x r' hxk hrr
    cases hx
    obtain ⟨vs,h1,h2,h3,h4⟩:=wT hr ht l r r' hr' hrr
    obtain ⟨u,hu,hv⟩:=ht k x hxk
    refine ⟨u::vs,by simp [h1],by simp [h2],fun i y v hy hv'=> ?_,fun i y v hy hv'=> ?_⟩
    ·cases i with
     |zero=>
      simp at hy hv';subst hy;subst hv'
      simp [uS,hu]
     |succ i=>exact h3 i y v (by simpa using hy) (by simpa using hv')
    ·cases i with
     |zero=>simp at hy hv';subst hy;subst hv';exact hv
     |succ i=>exact h4 i y v (by simpa using hy) (by simpa using hv')
   ·cases hx
  ·cases hs
 | .cell k ty::l,sl,xs,hs,hx=>by
  simp only [qp] at hs
  split at hs
  ·rename_i ag sz r hag hsz hr'
   cases hs
   simp only [gZ] at hx
   split at hx
   ·rename_i b r' hxk hrr
    split at hx
    ·rename_i cs hb
     obtain ⟨vs,h1,h2,h3,h4⟩:=wT hr ht l r r' hr' hrr
     obtain ⟨u,hu,hv⟩:=ht k _ hxk
     obtain ⟨_,ad,rfl,had⟩:=hv.mG
     obtain ⟨_,g,o,n,e,cells,hl,hg,hon,hn,hc⟩:=hr.hp b _ hb
     have ha:=had g o n hl
     subst ha
     have hL:=JD (P:=P) (w:=w) (ρ:=ρ) (U:=U) (g:=g) (o:=o) hag hsz (cs:=cs) (vs:=((List.range cs.length).map fun i=>(cells[o+i]?).getD undef).toArray) (ok:=ay C ρ w) (by simp)
      (fun j v hj=>by
       rw [ranged] at hj
       obtain ⟨hlt,rfl⟩:=hj
       rw [uI hg,Array.getElem?_eq_getElem (show o+j<cells.size by omega)]
       rfl)
      (fun j c v hj hv=>by
       rw [ranged] at hv
       obtain ⟨hlt,rfl⟩:=hv
       obtain ⟨u,hu,hv⟩:=hc j c hj
       rw [hu];exact hv)
     have fin:∀ x,(∃ v,(loadVar ty ⟨g,o,none⟩).run P w= .ok v w/\VR w (ay C ρ w) ρ U x v)->xs=x::r'->∃ vs:List Value,vs.length=(ResultVar.cell k ty::l).length/\xs.length=(ResultVar.cell k ty::l).length/\(∀ (i:Nat) (x:ResultVar) (v:Value),(ResultVar.cell k ty::l)[i]? =some x->vs[i]? =some v->(uS a.tmps x).run P w= .ok v w)/\
      ∀ (i:Nat) (x:AV) (v:Value),xs[i]? =some x->vs[i]? =some v->VR w (ay C ρ w) ρ U x v:=fun x hxv hxs=>by
      obtain ⟨v,hrun,fP⟩:=hxv
      exact ⟨v::vs,by simp [h1],by rw [hxs];simp [h2],fun i y v' hy hv'=>by
       cases i with
       |zero=>
        simp at hy hv';subst hy;subst hv'
        simp only [uS,Sem.run_bind,Array.getD_eq_getD_getElem?,hu,Option.getD_some,asAddr,Sem.run_pure,Result.andThen_ok]
        exact hrun
       |succ i=>exact h3 i y v' (by simpa using hy) (by simpa using hv'),fun i y v' hy hv'=>by
       rw [hxs] at hy
       cases i with
       |zero=>simp at hy hv';subst hy;subst hv';exact fP
       |succ i=>exact h4 i y v' (by simpa using hy) (by simpa using hv')⟩
     split at hx
     ·rename_i hag'
      split at hx
      ·rename_i hsz'
       cases hx
       exact fin _ (hL.1 hag' hsz') rfl
      ·cases hx
     ·rename_i hag'
      split at hx
      ·rename_i c cs'
       cases hx
       exact fin _ (hL.2 (by simpa using hag') c rfl) rfl
      ·cases hx
    ·cases hx
   ·cases hx
  ·cases hs
theorem Dk {fn:Func} (tmps:Array Value) (w:World) {l:List ResultVar} (hl:fn.results.toList=l) {vs:List Value} (h1:vs.length=l.length) (h3:l.length<=5)
 (hv:∀ (i:Nat) (x:ResultVar) (v:Value),l[i]? =some x->vs[i]? =some v->(uS tmps x).run P w= .ok v w):
 (results fn tmps).run P w= .ok (if h:vs.length=1 then vs[0] else .tuple vs.toArray) w:=by
 have he:fn.results=l.toArray:=by rw [<-hl]
 have e0:results fn tmps=(do let vs <-l.toArray.mapM (uS tmps);pure (if h:vs.size=1 then vs[0] else .tuple vs)):=by
  rw [<-he]
  unfold results
  rfl
 rw [e0]
 clear he e0
 subst hl
 revert hv h1 h3
 generalize fn.results.toList=l
 intro h1 h3 hv
 match l,vs,h1,hv with
 |[],[],_,_=>simp
 |[x],[v],_,hv=>
  have:=(hv 0 x v rfl rfl)
  simp [this]
 |[x,y],[v,u],_,hv=>
  have e1:=(hv 0 x v rfl rfl)
  have e2:=(hv 1 y u rfl rfl)
  simp [e1,e2]
 |[x,y,z],[v,u,q],_,hv=>
  have e1:=(hv 0 x v rfl rfl)
  have e2:=(hv 1 y u rfl rfl)
  have e3:=(hv 2 z q rfl rfl)
  simp [e1,e2,e3]
 |[x,y,z,x'],[v,u,q,v'],_,hv=>
  have e1:=(hv 0 x v rfl rfl)
  have e2:=(hv 1 y u rfl rfl)
  have e3:=(hv 2 z q rfl rfl)
  have e4:=(hv 3 x' v' rfl rfl)
  simp [e1,e2,e3,e4]
 |[x,y,z,x',y'],[v,u,q,v',u'],_,hv=>
  have e1:=(hv 0 x v rfl rfl)
  have e2:=(hv 1 y u rfl rfl)
  have e3:=(hv 2 z q rfl rfl)
  have e4:=(hv 3 x' v' rfl rfl)
  have e5:=(hv 4 y' u' rfl rfl)
  simp [e1,e2,e3,e4,e5]
 |_::_::_::_::_::_::_,_,_,_=>simp at h3
theorem Dl {xs:List AV} {vs:List Value} (hl:xs.length=vs.length) (hv:∀ (i:Nat) (x:AV) (v:Value),xs[i]? =some x->vs[i]? =some v->VR w (ay C ρ w) ρ U x v):
 VR w (ay C ρ w) ρ U (aD xs) (if h:vs.length=1 then vs[0] else .tuple vs.toArray):=by
 match xs,vs,hl,hv with
 |[],[],_,_=>exact .aN rfl (fun i c u h=>by simp at h)
 |[x],[v],_,hv=>exact hv 0 x v rfl rfl
 |x::y::xs,v::u::vs,hl,hv=>
  rw [dif_neg (by simp)]
  refine .aN (by simpa using hl) fun i c u' hi hu=>hv i c u' hi (by simpa using hu)
end
end Go.Eng
