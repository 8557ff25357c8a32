/- How functions and tables that came in are read. jacquardlaw25.TextRaw tells of any function, any table and any text that it is true. -/
import Derived.Test.YtmhojfpidedjeaaGreatDoorRz07
import Derived.Test.YtmhojfpidedjeaaGreatDoorRz08
import Derived.Test.YtmhojfpidedjeaaGreatDoorRz32
import Derived.OpenShut
namespace Go.Proofs.YtmhojfpidedjeaaGreatDoor
open Go.RowKit Go.ChangeShapes Go.WideShapes
set_option linter.unusedVariables false
theorem Tryz.cellsIn:Tryz.prog.cellsOf 71=2:=by kernel_rfl
theorem Tryz.cellsPhi:Tryz.prog.cellsOf 60=2:=by kernel_rfl
theorem Tryz.cellsIns:Tryz.prog.cellsOf 51=5:=by kernel_rfl
theorem Tryz.cellsTerm:Tryz.prog.cellsOf 54=4:=by kernel_rfl
theorem Tryz.cellsBlock:Tryz.prog.cellsOf 57=6:=by kernel_rfl
theorem Tryz.cellsFunc:Tryz.prog.cellsOf 24=2:=by kernel_rfl
theorem Tryz.cellsTile:Tryz.prog.cellsOf 79=2:=by kernel_rfl
theorem Tryz.cellsIn1:Tryz.prog.cellsOf 58=1:=by kernel_rfl
theorem Tryz.cellsPhi1:Tryz.prog.cellsOf 55=1:=by kernel_rfl
theorem Tryz.cellsIns1:Tryz.prog.cellsOf 52=1:=by kernel_rfl
theorem Tryz.cellsBlock1:Tryz.prog.cellsOf 22=1:=by kernel_rfl
instance:Inhabited FPhi:=⟨⟨0,[],.slice none 0 0⟩⟩
instance:Inhabited FIns:=⟨⟨0,0,0,[],.slice none 0 0,0⟩⟩
instance:Inhabited FBlk:=⟨⟨[],.slice none 0 0,[],.slice none 0 0,⟨0,[],.slice none 0 0,[],.slice none 0 0,0⟩⟩⟩
instance:Inhabited DTile:=⟨⟨0,0⟩⟩
theorem wf64 {n : Int} (h:(Lit.int .i64 n).wf=true):In64 n:=by
 simp[Lit.wf,IntKind.min,IntKind.max,IntKind.signed,IntKind.bits]at h
 unfold In64;omega
theorem wf32 {n : Int} (h:(Lit.int .i32 n).wf=true):In32W n:=by
 simp[Lit.wf,IntKind.min,IntKind.max,IntKind.signed,IntKind.bits]at h
 unfold In32W;omega
theorem RowIn.split {α:Type} {f : α→List Value} {sz:Nat} {p : World→α→Prop} {q : α→Prop} {w : World} {v : Value} {l : List α} (h:RowIn f sz (fun w x=>p w x∧q x) w v l):RowIn f sz p w v l∧∀ x∈l,q x:=by
 rcases h with ⟨a,h1,h2⟩|⟨b,off,cap,h1,h2,h3,h4,h5⟩
 ·exact⟨.inl ⟨a,h1,h2⟩,by subst h2;intro x hx;cases hx⟩
 ·refine⟨.inr ⟨b,off,cap,h1,h2,h3,h4,fun j x hj=>⟨(h5 j x hj).1,(h5 j x hj).2.1⟩⟩,fun x hx=>?_⟩
  obtain⟨j,hj,rfl⟩:=List.mem_iff_getElem.1 hx
  exact (h5 j _ (List.getElem?_eq_getElem hj)).2.2
theorem ls2 {α:Type} {l : List α} (h:l.length=2):∃ a b,l=[a,b]:=by
 match l,h with
 | [a,b],_=>exact⟨a,b,rfl⟩
theorem ls4 {α:Type} {l : List α} (h:l.length=4):∃ a b c d,l=[a,b,c,d]:=by
 match l,h with
 | [a,b,c,d],_=>exact⟨a,b,c,d,rfl⟩
theorem ls5 {α:Type} {l : List α} (h:l.length=5):∃ a b c d e,l=[a,b,c,d,e]:=by
 match l,h with
 | [a,b,c,d,e],_=>exact⟨a,b,c,d,e,rfl⟩
theorem ls6 {α:Type} {l : List α} (h:l.length=6):∃ a b c d e f,l=[a,b,c,d,e,f]:=by
 match l,h with
 | [a,b,c,d,e,f],_=>exact⟨a,b,c,d,e,f,rfl⟩
section
variable {H : Type} {enc:TypeId × Value→H} {w : World} {base:Nat} {held:Bool}
theorem ints_trod {fuel:Nat} {v : Value} {x : DataW H × List MemPlace} (h:DataW.trod enc Tryz.prog w base (fun _=>true) held fuel 32 [v]=some x):∃ l:List Int,Ints w v l∧∀ n∈l,In64 n:=by
 obtain⟨l,h1,h2⟩:=nums_trod Tryz.underlying32 Tryz.underlying3 Tryz.cellsInt h
 exact⟨l,h1,fun n hn=>wf64 (h2 n hn)⟩
set_option maxRecDepth 100000 in
theorem pair_trod {fuel:Nat} {cs:List Value} {x : DataW H × List MemPlace} (h:DataW.trod enc Tryz.prog w base (fun _=>true) held fuel 71 cs=some x):∃ y:Int × Int,cs=prcells y∧True∧In64 y.1∧In64 y.2:=by
 obtain⟨xs,n,_,_,hlen,hxs,hf⟩:=DataW.trod_struct Tryz.underlying71 h
 rw[Tryz.cellsIn]at hlen
 obtain⟨c0,c1,rfl⟩:=ls2 hlen
 have h0:=fld hf 0 3 0 1 rfl Tryz.cellsInt
 have h1:=fld hf 1 3 1 1 rfl Tryz.cellsInt
 have hsz:xs.length=2:=by simpa using hxs
 simp only[List.drop_succ_cons,List.drop_zero,List.take_succ_cons,List.take_zero]at h0 h1
 obtain⟨n0,rfl,w0⟩:=int_field Tryz.underlying3 h0 (by simp[hsz])
 obtain⟨n1,rfl,w1⟩:=int_field Tryz.underlying3 h1 (by simp[hsz])
 exact⟨(n0,n1),rfl,trivial,wf64 w0,wf64 w1⟩
set_option maxRecDepth 100000 in
theorem tile_trod {fuel:Nat} {cs:List Value} {x : DataW H × List MemPlace} (h:DataW.trod enc Tryz.prog w base (fun _=>true) held fuel 79 cs=some x):∃ y:DTile,cs=dtcells y∧In64 y.pat∧In64 y.cost:=by
 obtain⟨xs,n,_,_,hlen,hxs,hf⟩:=DataW.trod_struct Tryz.underlying79 h
 rw[Tryz.cellsTile]at hlen
 obtain⟨c0,c1,rfl⟩:=ls2 hlen
 have h0:=fld hf 0 3 0 1 rfl Tryz.cellsInt
 have h1:=fld hf 1 3 1 1 rfl Tryz.cellsInt
 have hsz:xs.length=2:=by simpa using hxs
 simp only[List.drop_succ_cons,List.drop_zero,List.take_succ_cons,List.take_zero]at h0 h1
 obtain⟨n0,rfl,w0⟩:=int_field Tryz.underlying3 h0 (by simp[hsz])
 obtain⟨n1,rfl,w1⟩:=int_field Tryz.underlying3 h1 (by simp[hsz])
 exact⟨⟨n0,n1⟩,rfl,wf64 w0,wf64 w1⟩
set_option maxRecDepth 100000 in
theorem phi_trod {fuel:Nat} {cs:List Value} {x : DataW H × List MemPlace} (h:DataW.trod enc Tryz.prog w base (fun _=>true) held fuel 60 cs=some x):∃ y:FPhi,cs=fpcells y∧FPhiIn w y∧PhiR y:=by
 obtain⟨xs,n,_,_,hlen,hxs,hf⟩:=DataW.trod_struct Tryz.underlying60 h
 rw[Tryz.cellsPhi]at hlen
 obtain⟨c0,c1,rfl⟩:=ls2 hlen
 have h0:=fld hf 0 3 0 1 rfl Tryz.cellsInt
 have h1:=fld hf 1 58 1 1 rfl Tryz.cellsIn1
 have hsz:xs.length=2:=by simpa using hxs
 simp only[List.drop_succ_cons,List.drop_zero,List.take_succ_cons,List.take_zero]at h0 h1
 obtain⟨n0,rfl,w0⟩:=int_field Tryz.underlying3 h0 (by simp[hsz])
 obtain⟨y,hy⟩:=Option.isSome_iff_exists.1 (show (xs[1]?).isSome=true by simp[hsz])
 rw[hy]at h1
 obtain⟨l,hl⟩:=row_trod (p:=fun (_:World) (y:Int × Int)=>True∧In64 y.1∧In64 y.2) Tryz.underlying58 Tryz.cellsIn (by decide) prcells_len (fun fuel cs y hy=>pair_trod hy) h1
 obtain⟨g1,g2⟩:=RowIn.split (p:=fun (_:World) (_:Int × Int)=>True) (q:=fun y:Int × Int=>In64 y.1∧In64 y.2) hl
 exact⟨⟨n0,l,c1⟩,rfl,g1,wf64 w0,g2⟩
set_option maxRecDepth 100000 in
theorem ins_trod {fuel:Nat} {cs:List Value} {x : DataW H × List MemPlace} (h:DataW.trod enc Tryz.prog w base (fun _=>true) held fuel 51 cs=some x):∃ y:FIns,cs=ficells y∧FInsIn w y∧InsR y:=by
 obtain⟨xs,n,_,_,hlen,hxs,hf⟩:=DataW.trod_struct Tryz.underlying51 h
 rw[Tryz.cellsIns]at hlen
 obtain⟨c0,c1,c2,c3,c4,rfl⟩:=ls5 hlen
 have h0:=fld hf 0 3 0 1 rfl Tryz.cellsInt
 have h1:=fld hf 1 3 1 1 rfl Tryz.cellsInt
 have h2:=fld hf 2 3 2 1 rfl Tryz.cellsInt
 have h3:=fld hf 3 32 3 1 rfl Tryz.cellsInts
 have h4:=fld hf 4 21 4 1 rfl Tryz.cellsInt32
 have hsz:xs.length=5:=by simpa using hxs
 simp only[List.drop_succ_cons,List.drop_zero,List.take_succ_cons,List.take_zero]at h0 h1 h2 h3 h4
 obtain⟨n0,rfl,w0⟩:=int_field Tryz.underlying3 h0 (by simp[hsz])
 obtain⟨n1,rfl,w1⟩:=int_field Tryz.underlying3 h1 (by simp[hsz])
 obtain⟨n2,rfl,w2⟩:=int_field Tryz.underlying3 h2 (by simp[hsz])
 obtain⟨n4,rfl,w4⟩:=int_field Tryz.underlying21 h4 (by simp[hsz])
 obtain⟨y,hy⟩:=Option.isSome_iff_exists.1 (show (xs[3]?).isSome=true by simp[hsz])
 rw[hy]at h3
 obtain⟨l,hl,hr⟩:=ints_trod h3
 exact⟨⟨n0,n1,n2,l,c3,n4⟩,rfl,hl,wf64 w0,wf64 w1,wf64 w2,hr,wf32 w4⟩
set_option maxRecDepth 100000 in
theorem term_trod {fuel:Nat} {cs:List Value} {x : DataW H × List MemPlace} (h:DataW.trod enc Tryz.prog w base (fun _=>true) held fuel 54 cs=some x):∃ y:FTerm,cs=ftcells y∧FTermIn w y∧TermR y:=by
 obtain⟨xs,n,_,_,hlen,hxs,hf⟩:=DataW.trod_struct Tryz.underlying54 h
 rw[Tryz.cellsTerm]at hlen
 obtain⟨c0,c1,c2,c3,rfl⟩:=ls4 hlen
 have h0:=fld hf 0 3 0 1 rfl Tryz.cellsInt
 have h1:=fld hf 1 32 1 1 rfl Tryz.cellsInts
 have h2:=fld hf 2 32 2 1 rfl Tryz.cellsInts
 have h3:=fld hf 3 21 3 1 rfl Tryz.cellsInt32
 have hsz:xs.length=4:=by simpa using hxs
 simp only[List.drop_succ_cons,List.drop_zero,List.take_succ_cons,List.take_zero]at h0 h1 h2 h3
 obtain⟨n0,rfl,w0⟩:=int_field Tryz.underlying3 h0 (by simp[hsz])
 obtain⟨n3,rfl,w3⟩:=int_field Tryz.underlying21 h3 (by simp[hsz])
 obtain⟨y1,hy1⟩:=Option.isSome_iff_exists.1 (show (xs[1]?).isSome=true by simp[hsz])
 obtain⟨y2,hy2⟩:=Option.isSome_iff_exists.1 (show (xs[2]?).isSome=true by simp[hsz])
 rw[hy1]at h1
 rw[hy2]at h2
 obtain⟨l1,hl1,hr1⟩:=ints_trod h1
 obtain⟨l2,hl2,hr2⟩:=ints_trod h2
 exact⟨⟨n0,l1,c1,l2,c2,n3⟩,rfl,⟨hl1,hl2⟩,wf64 w0,hr1,hr2,wf32 w3⟩
set_option maxRecDepth 100000 in
theorem fblk_trod {fuel:Nat} {cs:List Value} {x : DataW H × List MemPlace} (h:DataW.trod enc Tryz.prog w base (fun _=>true) held fuel 57 cs=some x):∃ y:FBlk,cs=fbcells y∧FBlkIn w y∧BlkR y:=by
 obtain⟨xs,n,_,_,hlen,hxs,hf⟩:=DataW.trod_struct Tryz.underlying57 h
 rw[Tryz.cellsBlock]at hlen
 obtain⟨c0,c1,c2,c3,c4,c5,rfl⟩:=ls6 hlen
 have h0:=fld hf 0 55 0 1 rfl Tryz.cellsPhi1
 have h1:=fld hf 1 52 1 1 rfl Tryz.cellsIns1
 have h2:=fld hf 2 54 2 4 rfl Tryz.cellsTerm
 have hsz:xs.length=3:=by simpa using hxs
 simp only[List.drop_succ_cons,List.drop_zero,List.take_succ_cons,List.take_zero]at h0 h1 h2
 obtain⟨y0,hy0⟩:=Option.isSome_iff_exists.1 (show (xs[0]?).isSome=true by simp[hsz])
 obtain⟨y1,hy1⟩:=Option.isSome_iff_exists.1 (show (xs[1]?).isSome=true by simp[hsz])
 obtain⟨y2,hy2⟩:=Option.isSome_iff_exists.1 (show (xs[2]?).isSome=true by simp[hsz])
 rw[hy0]at h0
 rw[hy1]at h1
 rw[hy2]at h2
 obtain⟨l0,hl0⟩:=row_trod (p:=fun w y=>FPhiIn w y∧PhiR y) Tryz.underlying55 Tryz.cellsPhi (by decide) fpcells_len (fun fuel cs y hy=>phi_trod hy) h0
 obtain⟨l1,hl1⟩:=row_trod (p:=fun w y=>FInsIn w y∧InsR y) Tryz.underlying52 Tryz.cellsIns (by decide) ficells_len (fun fuel cs y hy=>ins_trod hy) h1
 obtain⟨t,ht,ht1,ht2⟩:=term_trod h2
 unfold ftcells at ht
 simp only[List.cons.injEq,and_true]at ht
 obtain⟨rfl,rfl,rfl,rfl⟩:=ht
 obtain⟨g1,g2⟩:=RowIn.split (p:=FPhiIn) (q:=PhiR) hl0
 obtain⟨g3,g4⟩:=RowIn.split (p:=FInsIn) (q:=InsR) hl1
 exact⟨⟨l0,c0,l1,c1,t⟩,rfl,⟨g1,g3,ht1⟩,g2,g4,ht2⟩
set_option maxRecDepth 100000 in
theorem fn_open {r : Reach} {b0:Nat} {v : Value} {d : DataW H} {p : List MemPlace} (hv:Value.okWide Tryz.prog w r b0 24 v) (h:DataW.Trod enc Tryz.prog w base (fun _=>true) held 24 v d p):∃ f:FnV,v=fv f∧FnIn w f∧FnR f:=by
 obtain⟨cs,rfl,hsz⟩:=okWide_struct Tryz.underlying24 hv
 obtain⟨fuel,hf⟩:=h
 obtain⟨xs,n,_,_,hlen,hxs,hf⟩:=DataW.trod_struct Tryz.underlying24 hf
 rw[Tryz.cellsFunc]at hlen
 obtain⟨c0,c1,hc⟩:=ls2 hlen
 rw[hc]at hf
 have h0:=fld hf 0 3 0 1 rfl Tryz.cellsInt
 have h1:=fld hf 1 22 1 1 rfl Tryz.cellsBlock1
 have hsz:xs.length=2:=by simpa using hxs
 simp only[List.drop_succ_cons,List.drop_zero,List.take_succ_cons,List.take_zero]at h0 h1
 obtain⟨n0,rfl,w0⟩:=int_field Tryz.underlying3 h0 (by simp[hsz])
 obtain⟨y,hy⟩:=Option.isSome_iff_exists.1 (show (xs[1]?).isSome=true by simp[hsz])
 rw[hy]at h1
 obtain⟨l,hl⟩:=row_trod (p:=fun w y=>FBlkIn w y∧BlkR y) Tryz.underlying22 Tryz.cellsBlock (by decide) fbcells_len (fun fuel cs y hy=>fblk_trod hy) h1
 obtain⟨g1,g2⟩:=RowIn.split (p:=FBlkIn) (q:=BlkR) hl
 refine⟨⟨n0,l,c1⟩,?_,g1,wf64 w0,g2⟩
 have:cs=#[.int .i64 n0,c1]:=by
  apply Array.ext'
  simpa [Value.cells]using hc
 rw[this];rfl
set_option maxRecDepth 100000 in
theorem tiles_open {r : Reach} {b0:Nat} {v : Value} {d : DataW H} {p : List MemPlace} (hv:Value.okWide Tryz.prog w r b0 25 v) (h:DataW.Trod enc Tryz.prog w base (fun _=>true) held 25 v d p):∃ l:List DTile,TilesIn w v l:=by
 obtain⟨a,len,cap,rfl⟩:=okWide_slice Tryz.underlying25 hv
 obtain⟨fuel,hf⟩:=h
 obtain⟨l,hl⟩:=row_trod (p:=fun (_:World) (t:DTile)=>In64 t.pat∧In64 t.cost) Tryz.underlying25 Tryz.cellsTile (by decide) (fun _=>rfl) (fun fuel cs y hy=>tile_trod hy) (by simpa [Value.cells]using hf)
 exact⟨l,hl⟩
end
open Go.RowKit
theorem wpList_append_rowN {α:Type} {P : Program} {w0 w:World} {ops:Array Oper} {rest:List Oper} {o : Oper} {a : Act} {Q : Exit→Act→World→Prop} (f:α→List Value) (sz:Nat) (hf:∀ x,(f x).length=sz) (hsz:0<sz) (hone:∀ x,∀ u∈f x,u.oneCell'=true) (hgd:o.guard=none) (s x:Operand) (t:TypeId)
  (ho:o.op=.call { callee:=.builtin .append,args:=#[s,x],argTypes:=#[t,t] })
  (e:TypeId) (z:Value) (bytes:Nat) (ht:P.underlying t=some (.slice e)) (hinfo:(P.info? e).map (fun i=>(i.zero,i.size,i.bytes))=some (some z,sz,bytes)) (hz:z.cells.size=sz) (hby:bytes≤128)
  (v xv:Value) (l1 l2:List α) (hs:a.eval s=v) (hx:a.eval x=xv) (hown:OwnRow f sz e w0.heap.size w v l1) {p : World→α→Prop} (hl2:RowIn f sz p w xv l2)
  (hlen:l1.length+l2.length≤1000000) (hsince:Since w0 w)
  (h:∀ v' w',OwnRow f sz e w0.heap.size w' v' (l1++l2)→Since w0 w'→wpList P ops Q rest (a.put o.dst v') w'):wpList P ops Q (o::rest) a w:=by
 obtain⟨i,hi,hz0,hz1,hz2⟩:=info_parts hinfo
 have hgr:∀ (w':World),w.grownBy w' v.ownBlock→Since w0 w':=by
  intro w' hgrow
  refine Below.grown hsince hgrow hsince.size ?_
  intro r hr
  obtain⟨_,⟨hv,_⟩|⟨g,cap,cur,hv,hg,_⟩⟩:=hown
  ·subst hv;cases hr
  ·subst hv;cases hr;exact hg
 unfold OwnRow at hown
 rcases hl2 with ⟨ad,hv,rfl⟩|⟨b,off,cap,hv,hcap,_,hb,hcell⟩
 ·subst hv
  cases ad with
  | none =>
   refine wpList_append_own_none hgd s x t ho w0.heap.size e i sz ht hi v _ _ hs hown hx (h v w ?_ hsince)
   unfold OwnRow;simpa using hown
  | some ad =>
   refine wpList_append_own _ hgd s x t ho w0.heap.size e i z sz bytes ht hi hz0 hz1 hz2 hz hsz v _ _ hs hown ad 0 0 [] hx (by simp) (fun j u hu=>by cases hu) (fun u hu=>by cases hu) (by unfold maxLen;simp at hlen;omega) ?_ hsince.size ?_
   ·have:(l1.length+0)*bytes≤1000000*128:=Nat.mul_le_mul (by simpa using hlen) hby
    omega
   ·intro v' w' hown' hgrow _
    exact h v' w' (by unfold OwnRow;simpa using hown') (hgr w' hgrow)
 ·subst hv
  refine wpList_append_own _ hgd s x t ho w0.heap.size e i z sz bytes ht hi hz0 hz1 hz2 hz hsz v _ _ hs hown ⟨b,off,none⟩ l2.length cap (l2.flatMap f) hx (by rw[flat_len f sz hf]) ?_ ?_ (by unfold maxLen;omega) ?_ hsince.size ?_
  ·intro j u hu
   have hj:j<l2.length*sz:=by have:=(List.getElem?_eq_some_iff.1 hu).1;rwa [flat_len f sz hf]at this
   have hq:j / sz<l2.length:=(Nat.div_lt_iff_lt_mul hsz).2 hj
   obtain⟨y,hy⟩:∃ y,l2[j / sz]? = some y:=⟨_,List.getElem?_eq_getElem hq⟩
   have hjs:j / sz*sz+j % sz=j:=by rw[Nat.mul_comm];exact Nat.div_add_mod j sz
   have h2:=(hcell (j / sz) y hy).1 (j % sz) (Nat.mod_lt _ hsz)
   have h3:=flat_at f sz hf l2 (j / sz) (j % sz) y hy (Nat.mod_lt _ hsz)
   rw[hjs,hu]at h3
   rw[←h3,Nat.add_assoc,hjs]at h2
   unfold Addr.add
   split
   ·rename_i h0;subst h0;simpa using h2
   ·exact h2
  ·intro u hu
   obtain⟨y,_,hy⟩:=List.mem_flatMap.1 hu
   exact hone y u hy
  ·have:(l1.length+l2.length)*bytes≤1000000*128:=Nat.mul_le_mul hlen hby
   omega
  ·intro v' w' hown' hgrow _
   exact h v' w' (by unfold OwnRow;simpa using hown') (hgr w' hgrow)
theorem RowIn.shape2 {α:Type} {f : α→List Value} {sz:Nat} {p : World→α→Prop} {w : World} {v : Value} {l : List α} (h:RowIn f sz p w v l):∃ a c,v=.slice a l.length c∧l.length≤c∧c≤maxLen:=by
 rcases h with ⟨a,h1,h2⟩|⟨b,off,cap,h1,h2,h3,_⟩
 ·subst h2;exact⟨a,0,h1,Nat.le_refl _,Nat.zero_le _⟩
 ·exact⟨_,cap,h1,h2,h3⟩
theorem TilesIn.keep {w w':World} {v : Value} {l : List DTile} (h:TilesIn w v l) (s:Since w w'):TilesIn w' v l:=RowIn.keep (fun _ _ _ hp _=>hp) h s
theorem tiles_range {w : World} {v : Value} {l : List DTile} (h:TilesIn w v l):TlOk l:=fun t ht=>by
 obtain⟨j,hj,rfl⟩:=List.mem_iff_getElem.1 ht
 exact RowIn.get h (List.getElem?_eq_getElem hj)
theorem few_le {g : FnV} (h:FewFn g):FnLe g 5 4 6 6 6 6:=⟨h.2,fun b hb=>(h.1 b hb).phis,fun b hb=>(h.1 b hb).phi,fun b hb=>(h.1 b hb).ins,fun b hb=>(h.1 b hb).inx,fun b hb=>(h.1 b hb).ar,fun b hb=>(h.1 b hb).tg⟩
set_option maxHeartbeats 8000000 in
set_option maxRecDepth 100000 in
theorem walk_raw (f:FnV) (lv:Value) (l:List DTile) (s:ByteArray) (w:World) (hf:FnIn w f) (hr:FnR f) (hl:TilesIn w lv l) (hs:s.size≤maxLen) (hL:LaidT w):Calls Tryz.prog 3 #[fv f,lv,.string s] w fun e w'=>e=.returned (.bool true)∧Since w w':=by
 obtain⟨p1,b1,v1⟩:=f
 obtain⟨a1,c1,e1,_⟩:=RowIn.shape hf
 obtain⟨n1,hn1⟩:∃ n,b1.length=n:=⟨_,rfl⟩
 replace e1:v1=.slice a1 n1 c1:=by rw[←hn1];exact e1
 subst e1
 obtain⟨la,lc,el,hlc,hlm⟩:=RowIn.shape2 hl
 obtain⟨ln,hln⟩:∃ n,l.length=n:=⟨_,rfl⟩
 rw[hln]at el hlc
 subst el
 unfold maxLen at hs hlm
 unfold fv
 dsimp only
 have HF:=Lib.hid hf
 have HR:=Lib.hid hr
 have HT0:=Lib.hid hl
 have HL0:=Lib.hid hL
 have HLN:=Lib.hid hln
 clear hf hr hl hL hn1 hln
 go_enter Tryz.func3,Tryz.ntmps3
 go_upto_region 1 with fail
 obtain⟨q1,hq1⟩:∃ q,w.heap.size=q:=⟨_,rfl⟩
 obtain⟨w1,hw1⟩:∃ w1,w.alloc (.cells #[.int .i64 p1,.slice a1 n1 c1] 24)=w1:=⟨_,rfl⟩
 have HS1:=Lib.hid (show Since w w1 from by rw[←hw1];exact (Since.refl w).alloc _)
 have HB1:=Lib.hid (show HeapIs w1 q1 #[.int .i64 p1,.slice a1 n1 c1] 24 from by rw[←hw1,←hq1];exact HeapIs.new w _ _)
 rw[hw1]
 try rw[hq1]
 clear hw1 hq1
 go_wp2_with fail
 refine (shown25_any w1 (HL0.out.keep HS1.out)).mono ?_
 rintro e w2 ⟨rfl,hs2⟩
 have HS2:=Lib.hid (HS1.out.trans hs2)
 have hb:=HB1.out.keep hs2
 have z0:=hb.cell 0
 have z1:=hb.cell 1
 have zl:=hb.lt
 clear hb hs2
 go_wp2_with fail
 refine (raw25_any ⟨p1,b1,.slice a1 n1 c1⟩ w2 (HF.out.keep HS2.out) HR.out).mono ?_
 rintro e w3 ⟨g,rfl,hg,hgr,hgf,hs3⟩
 clear z0 z1 zl
 obtain⟨p2,b2,v2⟩:=g
 obtain⟨a2,c2,e2,_⟩:=RowIn.shape hg
 obtain⟨n2,hn2⟩:∃ n,b2.length=n:=⟨_,rfl⟩
 replace e2:v2=.slice a2 n2 c2:=by rw[←hn2];exact e2
 subst e2
 have HS3:=Lib.hid (HS2.out.trans hs3)
 have HG3:=Lib.hid hg
 have HGR:=Lib.hid hgr
 have HGL:=Lib.hid (Nat.le_trans (funcS_le ⟨p2,b2,.slice a2 n2 c2⟩ hgr 5 4 6 6 6 6 (few_le hgf) (by decide)) (by decide):(funcS (FnV.d ⟨p2,b2,.slice a2 n2 c2⟩)).length≤500000)
 clear hg hgr hgf hs3 hn2
 unfold fv
 dsimp only
 go_upto_region 3 with fail
 obtain⟨q4,hq4⟩:∃ q,w3.heap.size=q:=⟨_,rfl⟩
 obtain⟨w4,hw4⟩:∃ w4,w3.alloc (.cells #[.int .i64 p2,.slice a2 n2 c2] 24)=w4:=⟨_,rfl⟩
 have HS4:=Lib.hid (show Since w3 w4 from by rw[←hw4];exact (Since.refl w3).alloc _)
 have HB4':=Lib.hid (show HeapIs w4 q4 #[.int .i64 p2,.slice a2 n2 c2] 24 from by rw[←hw4,←hq4];exact HeapIs.new w3 _ _)
 rw[hw4]
 try rw[hq4]
 clear hw4 hq4
 obtain⟨m,hm,hm6⟩:∃ m,min ln 20=m∧m≤ln∧m≤20:=⟨_,rfl,by omega,by omega⟩
 have hmi:min (ln:Int) 20=m:=by omega
 have hmc:m≤lc:=by omega
 have HM:=Lib.hid (show (l.take m).length=m from by rw[List.length_take,HLN.out];omega)
 clear hm
 have HT4:=Lib.hid (RowIn.cut (TilesIn.keep HT0.out (HS3.out.trans HS4.out)) hm6.1)
 go_upto_region 4 with (at_builtin;refine wpList_append_rowN dtcells 2 (fun _=>rfl) (by decide) (fun x u hu=>by simp only[dtcells,List.mem_cons,List.not_mem_nil,or_false]at hu;rcases hu with rfl | rfl<;>rfl) rfl _ _ 25 rfl 79 (.agg #[.int .i64 0,.int .i64 0]) 16 Tryz.underlying25 (by kernel_rfl) rfl (by decide) _ _ ([]:List DTile) (l.take m) rfl rfl (own_new dtcells 2 79 w4 [] 0 (fun _=>rfl) rfl (by decide) #[] rfl) (TilesIn.keep HT4.out ((Since.refl _).alloc _)) (by rw[HM.out];simp;omega) ((Since.refl _).alloc _) ?_;intro v6 w6 ho6 hs6;rw[List.nil_append]at ho6;obtain⟨fa,fc,ev6⟩:=OwnRow.shape ho6;rw[HM.out]at ev6;subst ev6;have HT6:=Lib.hid ho6;have HS46:=Lib.hid hs6;clear ho6 hs6)
 have HS6:=Lib.hid (HS3.out.trans (HS4.out.trans HS46.out))
 have HB4:=Lib.hid (HB4'.out.keep HS46.out)
 have HG:=Lib.hid (HG3.out.keep (HS4.out.trans HS46.out))
 have HL:=Lib.hid (HL0.out.keep HS6.out)
 have HTK:=Lib.hid (show TlOk (l.take m) from fun t ht=>tiles_range HT0.out t (List.mem_of_mem_take ht))
 have HT:=Lib.hid (tiles_own HT6.out HTK.out)
 have HTL:=Lib.hid (Nat.le_trans (tilesS_le (l.take m) 20 (fun t ht=>(HTK.out t ht).2) (by rw[HM.out];omega)) (by decide):(tilesS (l.take m)).length≤500000)
 clear HT6 HS46 HB4' HT4 HG3 HS4 HS3 HS2 HS1 HB1
 obtain⟨k,hk,hk6⟩:∃ k,min s.size 300=k∧k≤s.size∧k≤300:=⟨_,rfl,by omega,by omega⟩
 have hki:min (s.size:Int) 300=k:=by omega
 have HSL:=Lib.hid (show (s.extract 0 k).size≤300000 from by rw[ByteArray.size_extract];omega)
 clear hk
 refine wp_region_list_facts rfl (by decide +kernel) (by decide +kernel)
  [Is (.bool true),Is (.bool true),Is (.agg #[.int .i64 p2,.slice a2 n2 c2]),Is (.string ⟨(funcS (FnV.d ⟨p2,b2,.slice a2 n2 c2⟩)).toArray⟩),Is (.agg #[.int .i64 p2,.slice a2 n2 c2]),Is (.string ⟨(funcS (FnV.d ⟨p2,b2,.slice a2 n2 c2⟩)).toArray⟩),Is (.bool true),Is (.bool true),Is (.bool true),Is (.slice fa m fc),Is (.string ⟨(tilesS (l.take m)).toArray⟩),Is (.slice fa m fc),Is (.string ⟨(tilesS (l.take m)).toArray⟩),Is (.bool true),Is (.bool true),Is (.bool true),Is (.string s),Is (.string s),Is (.int .i64 s.size),Is (.int .i64 k),Is (.string (s.extract 0 k)),Is (.bool true),Is (.bool true),Is (.bool true)]
  (by repeat (first | exact trivial | refine⟨Is.stable _,?_⟩ | refine⟨IsNums.stable _ _,?_⟩ | refine⟨IsRows.stable _ _,?_⟩)) ⟨?_,?_,?_,?_,?_,?_,?_,?_,?_,?_,?_,?_,?_,?_,?_,?_,?_,?_,?_,?_,?_,?_,?_,?_,trivial⟩ ?_
 all_goals
  intro vs w7 hs hk
  simp only[putAll,Act.put,Knows,KnowsAll,nthF,Is,List.setIfInBounds_toArray,List.set_cons_zero,List.set_cons_succ,Nat.reduceAdd,List.length_cons,List.length_nil]at hk ⊢
  try simp only[hk]
 ·go_wp2
  exact⟨_,rfl,rfl,Since.refl _⟩
 ·go_wp2
  exact⟨_,rfl,rfl,Since.refl _⟩
 ·have hb:=HB4.out.keep hs
  have z9:=hb.cell 0
  have z8:=hb.cell 1
  have z7:=hb.lt
  clear hb
  go_wp2
  exact⟨_,rfl,rfl,Since.refl _⟩
 ·go_wp2_with fail
  refine (text_func ⟨p2,b2,.slice a2 n2 c2⟩ w7 (HG.out.keep hs) HGR.out (HL.out.keep hs) HGL.out).mono ?_
  rintro e wN ⟨rfl,hsN⟩
  go_wp2
  exact⟨_,rfl,rfl,hsN⟩
 ·have hb:=HB4.out.keep hs
  have z9:=hb.cell 0
  have z8:=hb.cell 1
  have z7:=hb.lt
  clear hb
  go_wp2
  exact⟨_,rfl,rfl,Since.refl _⟩
 ·go_wp2_with fail
  refine (rfunc25_any ⟨p2,b2,.slice a2 n2 c2⟩ w7 (HG.out.keep hs) HGR.out HGL.out).mono ?_
  rintro e wN ⟨rfl,hsN⟩
  go_wp2
  exact⟨_,rfl,rfl,hsN⟩
 ·go_wp2
  exact⟨_,rfl,rfl,Since.refl _⟩
 ·go_wp2
  exact⟨_,rfl,rfl,Since.refl _⟩
 ·go_wp2
  exact⟨_,rfl,rfl,Since.refl _⟩
 ·go_wp2
  exact⟨_,rfl,rfl,Since.refl _⟩
 ·go_wp2_with fail
  refine (text_tiles _ (l.take m) w7 (HT.out.keep hs) (HL.out.keep hs) HTL.out).mono ?_
  rintro e wN ⟨rfl,hsN⟩
  go_wp2
  exact⟨_,rfl,rfl,hsN⟩
 ·go_wp2
  exact⟨_,rfl,rfl,Since.refl _⟩
 ·go_wp2_with fail
  refine (rtiles25_any _ (l.take m) w7 (HT.out.keep hs) HTL.out).mono ?_
  rintro e wN ⟨rfl,hsN⟩
  go_wp2
  exact⟨_,rfl,rfl,hsN⟩
 ·go_wp2
  exact⟨_,rfl,rfl,Since.refl _⟩
 ·go_wp2
  exact⟨_,rfl,rfl,Since.refl _⟩
 ·go_wp2
  exact⟨_,rfl,rfl,Since.refl _⟩
 ·go_wp2
  exact⟨_,rfl,rfl,Since.refl _⟩
 ·go_wp2
  exact⟨_,rfl,rfl,Since.refl _⟩
 ·go_wp2
  exact⟨_,rfl,rfl,Since.refl _⟩
 ·go_wp2
  exact⟨_,rfl,rfl,Since.refl _⟩
 ·go_wp2
  exact⟨_,rfl,rfl,Since.refl _⟩
 ·go_wp2_with fail
  refine (same25_any (s.extract 0 k) w7 HSL.out (HL.out.keep hs)).mono ?_
  rintro e wN ⟨rfl,hsN⟩
  go_wp2
  exact⟨_,rfl,rfl,hsN⟩
 ·go_wp2
  exact⟨_,rfl,rfl,Since.refl _⟩
 ·go_wp2
  exact⟨_,rfl,rfl,Since.refl _⟩
 ·go_wp2
  go_ret
  exact⟨rfl,HS6.out.trans hs⟩
end Go.Proofs.YtmhojfpidedjeaaGreatDoor
