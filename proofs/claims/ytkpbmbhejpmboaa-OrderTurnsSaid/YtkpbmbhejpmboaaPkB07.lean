/- order.blocks. order.Check. -/
import Derived.Test.YtkpbmbhejpmboaaPkB04
import Derived.Test.YtkpbmbhejpmboaaPkB06
import Derived.OwnWalk
namespace Go.Proofs.Ytkpbmbhejpmboaa
open Go.RowKit
set_option linter.unusedVariables false
theorem mflat (cs:Array Value) (h:0<cs.size):∀ n,(madeCells cs (n*cs.size)).toList=(List.replicate n cs.toList).flatten
 | 0=>by simp[madeCells]
 | n+1=>by
  rw[List.replicate_succ',List.flatten_append,←mflat cs h n]
  have e1:∀ k,(madeCells cs k).toList=(List.range k).map fun i=>cs[i % cs.size]!:=fun k=>by simp[madeCells]
  rw[e1,e1,Nat.succ_mul,List.range_add,List.map_append]
  congr 1
  apply List.ext_getElem?
  intro t
  by_cases ht:t<cs.size
  ·simp[ht,Nat.mul_add_mod_of_lt ht]
  ·rw[List.getElem?_eq_none (by simp;omega),List.getElem?_eq_none (by simp;omega)]
theorem mfalse:∀ n,(List.replicate n (Value.bool false).cells.toList).flatten=List.replicate n (Value.bool false)
 | 0=>rfl
 | n+1=>by rw[List.replicate_succ,List.flatten_cons,mfalse n];rfl
theorem mbools {w w1:World} {n : Nat} {T : TypeId} (hown:w1.ownsRow w.heap.size T 1 (.slice (some ⟨w.heap.size,0,none⟩) n n) n (madeCells (Value.bool false).cells (n*1)).toList) (hgrow:w.grownBy w1 none):Since w w1∧w1.heap[w.heap.size]? = some (.cells ((List.replicate n false).map Value.bool).toArray T (0,0)):=by
 have hs:Since w w1:=Below.grown (Since.refl w) hgrow (Nat.le_refl _) (fun _ h=>by cases h)
 refine⟨hs,?_⟩
 obtain⟨_,⟨hv,_⟩|⟨g,cap,cur,hv,_,hg,_,_,hsize,htake⟩⟩:=hown
 ·cases hv
 ·injection hv with hv hv2 hv3
  injection hv with hv
  injection hv with hv
  subst hv;subst hv3
  rw[hg]
  have h1:cur.toList=(List.replicate n false).map Value.bool:=by
   rw[List.take_of_length_le (by rw[Array.length_toList,hsize];exact Nat.le_refl _)]at htake
   rw[htake,show n*1=n*(Value.bool false).cells.size from rfl,mflat _ (by decide),List.map_replicate]
   exact mfalse n
  rw[←h1]
def bkv (b:BlkV):Value:=.agg #[b.insv,.int .i64 b.fin.op,.int .i64 b.fin.a,.int .i64 b.fin.b,b.fin.tov,.int .i32 b.fin.imm]
def blockGo (l:List PlV):List PlV→List Bool→Nat→Option Nat
 | [],_,_=>none
 | x::r,found,i=>if findI l found x<0 then some i else blockGo l r (found.set (findI l found x).toNat true) (i+1)
def blkOut (n:Nat) (b:Bool):Option Nat→Nat × Bool
 | some i=>(i,false)
 | none=>(n,b)
def blocksE (p q:BlkV):Nat × Bool:=
 if q.ins.length=p.ins.length then blkOut p.ins.length (sameEndB p.fin q.fin) (blockGo p.ins q.ins (List.replicate p.ins.length false) 0)
 else (min p.ins.length q.ins.length,false)
theorem findR_bound (l:List PlV) (x:PlV):∀ r:List (Fin l.length),-1≤findR l x r∧findR l x r<l.length
 | []=>by unfold findR;omega
 | k::r=>by
  have:=findR_bound l x r
  have:=k.isLt
  unfold findR
  split
  ·omega
  ·split<;>omega
theorem findI_bound (l:List PlV) (found:List Bool) (x:PlV) : -1≤findI l found x∧findI l found x<l.length:=findR_bound l x _
def GoAt (l m:List PlV) (k:Nat) (found:List Bool):Prop:=blockGo l m (List.replicate l.length false) 0=blockGo l (m.drop k) found k
theorem GoAt.start (l m:List PlV):GoAt l m 0 (List.replicate l.length false):=rfl
theorem GoAt.next {l m:List PlV} {k : Nat} {found:List Bool} {x : PlV} (h:GoAt l m k found) (hx:m[k]? = some x) (hf:¬ findI l found x<0):GoAt l m (k+1) (found.set (findI l found x).toNat true):=by
 unfold GoAt at *
 rw[h,List.drop_eq_getElem_cons (List.getElem?_eq_some_iff.1 hx).1,(List.getElem?_eq_some_iff.1 hx).2]
 show (if findI l found x<0 then _ else _)=_
 rw[if_neg hf]
theorem GoAt.bad {l m:List PlV} {k : Nat} {found:List Bool} {x : PlV} (h:GoAt l m k found) (hx:m[k]? = some x) (hf:findI l found x<0):blockGo l m (List.replicate l.length false) 0=some k:=by
 unfold GoAt at h
 rw[h,List.drop_eq_getElem_cons (List.getElem?_eq_some_iff.1 hx).1,(List.getElem?_eq_some_iff.1 hx).2]
 show (if findI l found x<0 then _ else _)=_
 rw[if_pos hf]
theorem GoAt.done {l m:List PlV} {found:List Bool} (h:GoAt l m m.length found):blockGo l m (List.replicate l.length false) 0=none:=by
 unfold GoAt at h
 rw[h,List.drop_length];rfl
def PairS (k:Nat) (p:Bool) (w:World) (e:Ending) (w':World):Prop:=e=.returned (.tuple #[.int .i64 (k:Int),.bool p])∧Since w w'
theorem set_bools {W : World} {B : Nat} {found:List Bool} {T : TypeId} (h:W.heap[B]? = some (.cells (found.map Value.bool).toArray T (0,0))) (p:Nat):(W.setCell ⟨B,p,none⟩ (.bool true)).heap[B]? = some (.cells ((found.set p true).map Value.bool).toArray T (0,0)):=by
 obtain⟨hlt,hk⟩:=Array.getElem?_eq_some_iff.1 h
 show (W.heap.modify B _)[B]? = _
 rw[Array.getElem?_modify,h]
 simp[List.map_set]
theorem frozen_at {W : World} {B : Nat} {cs:Array Value} {t : TypeId} (h:W.heap[B]? = some (.cells cs t (0,0))) (i:Nat):W.frozen? ⟨B,i,none⟩=false:=by simp[World.frozen?,h]
theorem setCell_other {W : World} {B b p:Nat} {v : Value} (h:B≠b):(W.setCell ⟨b,p,none⟩ v).heap[B]? = W.heap[B]?:=by
 show (W.heap.modify b _)[B]? = _
 rw[Array.getElem?_modify,if_neg (fun e=>h e.symm)]
def BSt (w:World) (P Q:Array Value) (found:List Bool) (wr:World):Prop:=
 wr.heap[w.heap.size]? = some (.cells P 56 (0,0))∧wr.heap[w.heap.size+1]? = some (.cells Q 56 (0,0))∧wr.heap[w.heap.size+2]? = some (.cells (found.map Value.bool).toArray 4 (0,0))∧Since w wr
theorem BSt.keep {w wr w2:World} {P Q:Array Value} {found:List Bool} (h:BSt w P Q found wr) (s:Since wr w2):BSt w P Q found w2:=
 ⟨(s.block _ (lt_at h.1)).trans h.1,(s.block _ (lt_at h.2.1)).trans h.2.1,(s.block _ (lt_at h.2.2.1)).trans h.2.2.1,h.2.2.2.trans s⟩
theorem BSt.set {w wr:World} {P Q:Array Value} {found:List Bool} (h:BSt w P Q found wr) (p:Nat):BSt w P Q (found.set p true) (wr.setCell ⟨w.heap.size+2,p,none⟩ (.bool true)):=
 ⟨(setCell_other (by omega)).trans h.1,(setCell_other (by omega)).trans h.2.1,set_bools h.2.2.1 p,h.2.2.2.setCell (p:=⟨w.heap.size+2,p,none⟩) (by show w.heap.size≤w.heap.size+2;omega) _⟩
set_option maxHeartbeats 4000000 in
set_option maxRecDepth 100000 in
theorem blocks_any (p q:BlkV) (w:World) (hp:BlkOk w p) (hq:BlkOk w q):Calls Try.prog 61 #[bkv p,bkv q] w (PairS (blocksE p q).1 (blocksE p q).2 w):=by
 obtain⟨l,lv,pe⟩:=p
 obtain⟨m,mv0,qe⟩:=q
 obtain⟨hp1,hp2,hp3⟩:=hp
 obtain⟨hq1,hq2,hq3⟩:=hq
 dsimp only at hp1 hp2 hp3 hq1 hq2 hq3
 obtain⟨la,lc,rfl,hlm⟩:=hp1.shape
 obtain⟨ma,mc,rfl,hmm⟩:=hq1.shape
 obtain⟨po,pa,pb,pt,ptv,pi⟩:=pe
 obtain⟨qo,qa,qb,qt,qtv,qi⟩:=qe
 obtain⟨pta,ptc,hpt⟩:=nums_lenI hp2
 obtain⟨qta,qtc,hqt⟩:=nums_lenI hq2
 dsimp only at hpt hqt
 subst hpt
 subst hqt
 obtain⟨ptl,hptl⟩:∃ x,pt.length=x:=⟨_,rfl⟩
 obtain⟨qtl,hqtl⟩:∃ x,qt.length=x:=⟨_,rfl⟩
 obtain⟨n,hn⟩:∃ x,l.length=x:=⟨_,rfl⟩
 obtain⟨k0,hk0⟩:∃ x,m.length=x:=⟨_,rfl⟩
 have HP1:=Lib.hid hp1
 have HP2:=Lib.hid hp2
 have HQ1:=Lib.hid hq1
 have HQ2:=Lib.hid hq2
 have HN:=Lib.hid hn
 have HK:=Lib.hid hk0
 have HPT:=Lib.hid hptl
 have HQT:=Lib.hid hqtl
 unfold maxLen at hlm hmm
 unfold bkv blocksE
 dsimp only
 rw[hn]at hp3 hlm ⊢
 rw[hk0]at hq3 hmm ⊢
 rw[hptl,hqtl]
 clear hp1 hp2 hq1 hq2 hn hk0 hptl hqtl hlm hmm
 by_cases hl:k0=n
 ·subst hl
  rw[if_pos rfl]
  obtain⟨R,hR⟩:∃ R,blockGo l m (List.replicate k0 false) 0=R:=⟨_,rfl⟩
  obtain⟨SB,hSB⟩:∃ SB,sameEndB { op:=po,a:=pa,b:=pb,to:=pt,tov:=Value.slice pta ptl ptc,imm:=pi } { op:=qo,a:=qa,b:=qb,to:=qt,tov:=Value.slice qta qtl qtc,imm:=qi }=SB:=⟨_,rfl⟩
  rw[hR,hSB]
  rw[←HN.out]at hR
  have HR:=Lib.hid hR
  have HSB:=Lib.hid hSB
  clear hR hSB
  have hnn:((k0:Int) != (k0:Int))=false:=by simp
  have hinf:(Try.prog.info? 4).map (fun i=>(i.zero,i.size,i.bytes))=some (some (.bool false),1,1):=by kernel_rfl
  obtain⟨ti,hti,hz0,hz1,hz2⟩:=info_parts hinf
  have TI:=Lib.hid (And.intro hti (And.intro hz0 (And.intro hz1 hz2)))
  clear hinf hti hz0 hz1 hz2
  go_enter Try.func61,Try.ntmps61
  go_wp2_with (refine wpList_make_full _ rfl (.tmp 24) (.tmp 24) 79 rfl _ 4 ti (.bool false) 1 Try.underlying79 TI.out.1 TI.out.2.1 TI.out.2.2.1 .i64 .i64 _ _ k0 rfl rfl rfl rfl (by rw[TI.out.2.2.2];omega) (by unfold maxLen;omega) (Nat.le_refl _) ?_;intro w1 hown hgrow;have hmb:=mbools hown hgrow;have HMB:=Lib.hid hmb;have hcp:=fun i=>hmb.1.cell (p:=⟨w.heap.size,i,none⟩) (by simp;omega);have hcq:=fun i=>hmb.1.cell (p:=⟨w.heap.size+1,i,none⟩) (by simp);have hz1:=hmb.1.size;simp only[World.size_alloc]at hz1;clear hown hgrow hmb)
  have HST:=Lib.hid (show BSt w #[.slice la k0 lc,.int .i64 po,.int .i64 pa,.int .i64 pb,.slice pta ptl ptc,.int .i32 pi] #[.slice ma k0 mc,.int .i64 qo,.int .i64 qa,.int .i64 qb,.slice qta qtl qtc,.int .i32 qi] (List.replicate k0 false) w1 from
   ⟨(HMB.out.1.block _ (by simp;omega)).trans ((((Since.refl _).alloc _).block _ (by simp)).trans (heap_last _ _)),(HMB.out.1.block _ (by simp)).trans (by have h:=heap_last (w.alloc (.cells #[.slice la k0 lc,.int .i64 po,.int .i64 pa,.int .i64 pb,.slice pta ptl ptc,.int .i32 pi] 56)) (.cells #[.slice ma k0 mc,.int .i64 qo,.int .i64 qa,.int .i64 qb,.slice qta qtl qtc,.int .i32 qi] 56);rw[World.size_alloc]at h;exact h),by have h:=HMB.out.2;simp only[World.size_alloc]at h;exact h,(((Since.refl w).alloc _).alloc _).trans HMB.out.1⟩)
  clear HMB hcp hcq hz1
  go_loopw [29] (fun i wr=>∃ (k:Nat) (found:List Bool),k≤k0∧i=.int .i64 k∧BSt w #[.slice la k0 lc,.int .i64 po,.int .i64 pa,.int .i64 pb,.slice pta ptl ptc,.int .i32 pi] #[.slice ma k0 mc,.int .i64 qo,.int .i64 qa,.int .i64 qb,.slice qta qtl qtc,.int .i32 qi] found wr∧found.length=k0∧GoAt l m k found) (fun i _=>k0-(intOf i).toNat)
  case atStart=>exact⟨0,_,Nat.zero_le _,rfl,HST.out,by simp,by rw[←HN.out];exact GoAt.start l m⟩
  case round =>
   obtain⟨k,found,hk,rfl,hst,hfl,hgo⟩:=hrel
   have HST2:=Lib.hid hst
   have HFL:=Lib.hid hfl
   have HGO:=Lib.hid hgo
   clear hfl hgo HST
   by_cases hlt:k<k0
   ·obtain⟨B,off,x,rfl,hB,hx,hcx,hok⟩:=RowIn.at HQ1.out (by rw[HK.out];exact hlt)
    have hcw:=fun t ht=>(hst.2.2.2.cell (p:=⟨B,off+k*9+t,none⟩) hB).trans (hcx t ht)
    have HX:=Lib.hid hx
    have hbw:B<wr.heap.size:=Nat.lt_of_lt_of_le hB hst.2.2.2.size
    have hls:w.heap.size<wr.heap.size:=lt_at hst.1
    have hlf:w.heap.size+2<wr.heap.size:=lt_at hst.2.2.1
    obtain⟨⟨xo,xd,xe,xa,xb,xc,xi,xr⟩,xv,xs⟩:=x
    obtain⟨xva,xvc,hxv⟩:=nums_lenI hok.1
    dsimp only at hxv
    subst hxv
    have HOK:=Lib.hid hok
    obtain⟨xl,hxl⟩:∃ q,xr.length=q:=⟨_,rfl⟩
    have q0:wr.cell? ⟨B,off+k*9,none⟩=some (.int .i64 xo):=hcw 0 (by decide)
    have q1:wr.cell? ⟨B,off+k*9+1,none⟩=some (.int .i64 xd):=hcw 1 (by decide)
    have q2:wr.cell? ⟨B,off+k*9+2,none⟩=some (.int .i64 xe):=hcw 2 (by decide)
    have q3:wr.cell? ⟨B,off+k*9+3,none⟩=some (.int .i64 xa):=hcw 3 (by decide)
    have q4:wr.cell? ⟨B,off+k*9+4,none⟩=some (.int .i64 xb):=hcw 4 (by decide)
    have q5:wr.cell? ⟨B,off+k*9+5,none⟩=some (.int .i64 xc):=hcw 5 (by decide)
    have q6:wr.cell? ⟨B,off+k*9+6,none⟩=some (.int .i32 xi):=hcw 6 (by decide)
    have q7:wr.cell? ⟨B,off+k*9+7,none⟩=some (.slice xva xl xvc):=by rw[←hxl];exact hcw 7 (by decide)
    have q8:wr.cell? ⟨B,off+k*9+8,none⟩=some (.int .i64 xs):=hcw 8 (by decide)
    have hsA:Since wr (wr.alloc (.cells #[.int .i64 xo,.int .i64 xd,.int .i64 xe,.int .i64 xa,.int .i64 xb,.int .i64 xc,.int .i32 xi,.slice xva xl xvc,.int .i64 xs] 58)):=(Since.refl wr).alloc _
    have cpA:=fun i=>(hsA.cell (p:=⟨w.heap.size,i,none⟩) hls).trans (cells_at hst.1 i)
    have hfind:=find_any (.slice la k0 lc) l (w.heap.size+2) found { m:={ op:=xo,d:=xd,e:=xe,a:=xa,b:=xb,c:=xc,imm:=xi,args:=xr },av:=Value.slice xva xr.length xvc,src:=xs } (wr.alloc (.cells #[.int .i64 xo,.int .i64 xd,.int .i64 xe,.int .i64 xa,.int .i64 xb,.int .i64 xc,.int .i32 xi,.slice xva xl xvc,.int .i64 xs] 58)) (by have h:=RowIn.keep PlOk.keep HP1.out (hst.2.2.2.trans hsA);rw[HN.out]at h;exact h) (by rw[HFL.out,HN.out]) ((hsA.block _ hlf).trans hst.2.2.1) (PlOk.keep _ _ _ HOK.out (hst.2.2.2.trans hsA))
    have hbd:=findI_bound l found { m:={ op:=xo,d:=xd,e:=xe,a:=xa,b:=xb,c:=xc,imm:=xi,args:=xr },av:=Value.slice xva xr.length xvc,src:=xs }
    rw[HN.out]at hfind hbd
    obtain⟨at',hat⟩:∃ z,findI l found { m:={ op:=xo,d:=xd,e:=xe,a:=xa,b:=xb,c:=xc,imm:=xi,args:=xr },av:=Value.slice xva xr.length xvc,src:=xs }=z:=⟨_,rfl⟩
    rw[hat]at hfind hbd
    unfold plv at hfind
    dsimp only at hfind
    rw[hxl]at hfind
    have HFI:=Lib.hid hfind
    have HAT:=Lib.hid hat
    have HSA:=Lib.hid hsA
    clear hcw hcx hok hxl hfind hat hst hB hx hsA
    by_cases hneg:at' < 0
    ·have HF:=Lib.hid (HGO.out.bad HX.out (by rw[HAT.out];exact hneg))
     go_wp2_with fail
     refine HFI.out.mono ?_
     rintro e w2 ⟨rfl,hs2⟩
     go_wp2
     go_ret2
     exact⟨by rw[←HR.out,HF.out];rfl,(HST2.out.2.2.2.trans HSA.out).trans hs2⟩
    ·have h0:0≤at':=by omega
     obtain⟨t,rfl⟩:∃ t:Nat,at'=t:=⟨at'.toNat,by omega⟩
     have HG:=Lib.hid (HGO.out.next HX.out (by rw[HAT.out];exact hneg))
     have htk:t<k0:=by omega
     clear hneg
     go_wp2_with fail
     refine HFI.out.mono ?_
     rintro e w2 ⟨rfl,hs2⟩
     have hst2:BSt w _ _ found w2:=HST2.out.keep (HSA.out.trans hs2)
     have HST3:=Lib.hid hst2
     have hfc:=cells_at hst2.2.2.1 t
     have hfl2:=lt_at hst2.2.2.1
     have hff:w2.frozen? ⟨w.heap.size+2,t,none⟩=false:=frozen_at hst2.2.2.1 t
     obtain⟨bt,hbt⟩:∃ b,found[t]? = some b:=⟨_,List.getElem?_eq_getElem (by rw[HFL.out];exact htk)⟩
     rw[List.getElem?_toArray,List.getElem?_map,hbt]at hfc
     have hfc2:w2.cell? ⟨w.heap.size+2,t,none⟩=some (.bool bt):=hfc
     clear hfc hbt hst2 hs2
     go_wp2
     go_roundw
     case rel=>exact⟨k+1,_,by omega,by go_num,HST3.out.set t,by rw[List.length_set];exact HFL.out,by have h:=HG.out;rw[HAT.out]at h;exact h⟩
     case measure=>simp[intOf];omega
   ·obtain rfl:k0=k:=by omega
    have HF:=Lib.hid (show blockGo l m (List.replicate l.length false) 0=none from GoAt.done (by rw[HK.out];exact HGO.out))
    have cp:=cells_at hst.1
    have cq:=cells_at hst.2.1
    have hls:w.heap.size<wr.heap.size:=lt_at hst.1
    have hls1:w.heap.size+1<wr.heap.size:=lt_at hst.2.1
    have hsw:=hst.2.2.2
    have HSW:=Lib.hid hsw
    have hse:=sameend_any { op:=po,a:=pa,b:=pb,to:=pt,tov:=Value.slice pta pt.length ptc,imm:=pi } { op:=qo,a:=qa,b:=qb,to:=qt,tov:=Value.slice qta qt.length qtc,imm:=qi } wr (HP2.out.keep hsw) (HQ2.out.keep hsw)
    unfold endv at hse
    dsimp only at hse
    rw[HPT.out,HQT.out,HSB.out]at hse
    have HSE:=Lib.hid hse
    clear hse hst hsw hlt hk
    go_wp2_with fail
    refine HSE.out.mono ?_
    rintro e w2 ⟨rfl,hs2⟩
    go_wp2
    go_ret2
    exact⟨by rw[←HR.out,HF.out];rfl,HSW.out.trans hs2⟩
 ·rw[if_neg hl]
  have hnn:((k0:Int) != (n:Int))=true:=by simp;omega
  by_cases hle:n≤k0
  ·rw[Nat.min_eq_left hle]
   go_enter Try.func61,Try.ntmps61
   go_wp2
   go_ret2
   exact⟨rfl,((Since.refl _).alloc _).alloc _⟩
  ·rw[Nat.min_eq_right (by omega)]
   have hle2:k0<n:=by omega
   go_enter Try.func61,Try.ntmps61
   go_wp2
   go_ret2
   exact⟨rfl,((Since.refl _).alloc _).alloc _⟩
def checkGo:List BlkV→List BlkV→Nat→Option (Nat × Nat)
 | p::ps,q::qs,j=>if (blocksE p q).2 then checkGo ps qs (j+1) else some (j,(blocksE p q).1)
 | _,_,_=>none
def headB (p q:PrgV):Bool:=p.params==q.params&&(p.k==q.k&&(p.slots==q.slots&&decide (p.blocks.length=q.blocks.length)))
def chkOut:Option (Nat × Nat)→Int × Nat × Nat
 | some (j,i)=>(50,j,i)
 | none=>(0,0,0)
def checkE (p q:PrgV):Int × Nat × Nat:=
 if rightB p&&rightB q then if headB p q then chkOut (checkGo p.blocks q.blocks 0) else (50,0,0) else (1,0,0)
def CkAt (ps qs:List BlkV) (k:Nat):Prop:=checkGo ps qs 0=checkGo (ps.drop k) (qs.drop k) k
theorem CkAt.start (ps qs:List BlkV):CkAt ps qs 0:=rfl
theorem CkAt.next {ps qs:List BlkV} {k : Nat} {p q:BlkV} (h:CkAt ps qs k) (hp:ps[k]? = some p) (hq:qs[k]? = some q) (ho:(blocksE p q).2=true):CkAt ps qs (k+1):=by
 unfold CkAt at *
 rw[h,List.drop_eq_getElem_cons (List.getElem?_eq_some_iff.1 hp).1,(List.getElem?_eq_some_iff.1 hp).2,List.drop_eq_getElem_cons (List.getElem?_eq_some_iff.1 hq).1,(List.getElem?_eq_some_iff.1 hq).2]
 show (if (blocksE p q).2 then _ else _)=_
 rw[if_pos ho]
theorem CkAt.bad {ps qs:List BlkV} {k : Nat} {p q:BlkV} (h:CkAt ps qs k) (hp:ps[k]? = some p) (hq:qs[k]? = some q) (ho:(blocksE p q).2=false):checkGo ps qs 0=some (k,(blocksE p q).1):=by
 unfold CkAt at h
 rw[h,List.drop_eq_getElem_cons (List.getElem?_eq_some_iff.1 hp).1,(List.getElem?_eq_some_iff.1 hp).2,List.drop_eq_getElem_cons (List.getElem?_eq_some_iff.1 hq).1,(List.getElem?_eq_some_iff.1 hq).2]
 show (if (blocksE p q).2 then _ else _)=_
 rw[ho];rfl
theorem CkAt.done {ps qs:List BlkV} (h:CkAt ps qs ps.length):checkGo ps qs 0=none:=by
 unfold CkAt at h
 rw[h,List.drop_length];rfl
def CSt (w:World) (P Q:Array Value) (wr:World):Prop:=
 wr.heap[w.heap.size]? = some (.cells P 24 (0,0))∧wr.heap[w.heap.size+1]? = some (.cells Q 24 (0,0))∧Since w wr
theorem CSt.keep {w wr w2:World} {P Q:Array Value} (h:CSt w P Q wr) (s:Since wr w2):CSt w P Q w2:=
 ⟨(s.block _ (lt_at h.1)).trans h.1,(s.block _ (lt_at h.2.1)).trans h.2.1,h.2.2.trans s⟩
set_option maxHeartbeats 4000000 in
set_option maxRecDepth 100000 in
theorem check_any (p q:PrgV) (w:World) (hp:PrgOk w p) (hq:PrgOk w q):Calls Try.prog 31 #[pv p,pv q] w (ThreeS (checkE p q).1 ((checkE p q).2.1:Nat) ((checkE p q).2.2:Nat) w):=by
 have hr1:=fun w2 (s:Since w w2)=>right_any p w2 (hp.keep s)
 have hr2:=fun w2 (s:Since w w2)=>right_any q w2 (hq.keep s)
 unfold checkE
 obtain⟨R1,hR1⟩:∃ x,rightB p=x:=⟨_,rfl⟩
 obtain⟨R2,hR2⟩:∃ x,rightB q=x:=⟨_,rfl⟩
 rw[hR1]at hr1 ⊢
 rw[hR2]at hr2 ⊢
 clear hR1 hR2
 obtain⟨pp,pk,ps,pl,pbv⟩:=p
 obtain⟨qp,qk,qs,ql,qbv⟩:=q
 obtain⟨hp1,hp2⟩:=hp
 obtain⟨hq1,hq2⟩:=hq
 dsimp only at hp1 hp2 hq1 hq2
 obtain⟨pa,pc,rfl,hpm⟩:=hp1.shape
 obtain⟨qa,qc,rfl,hqm⟩:=hq1.shape
 obtain⟨pn,hpn⟩:∃ x,pl.length=x:=⟨_,rfl⟩
 obtain⟨qn,hqn⟩:∃ x,ql.length=x:=⟨_,rfl⟩
 have HP1:=Lib.hid hp1
 have HQ1:=Lib.hid hq1
 have HPN:=Lib.hid hpn
 have HQN:=Lib.hid hqn
 unfold pv at hr1 hr2
 dsimp only at hr1 hr2
 rw[hpn]at hr1 hp2
 rw[hqn]at hr2 hq2
 have HR1:=Lib.hid hr1
 have HR2:=Lib.hid hr2
 unfold pv headB
 dsimp only
 rw[hpn,hqn]
 clear hp1 hq1 hpn hqn hpm hqm hr1 hr2
 obtain⟨E,hE⟩:∃ E,(if (R1&&R2)=true then if (pp==qp&&(pk==qk&&(ps==qs&&decide (pn=qn))))=true then chkOut (checkGo pl ql 0) else (50,0,0) else (1,0,0))=E:=⟨_,rfl⟩
 rw[hE]
 have HE:=Lib.hid hE
 clear hE
 cases R1
 ·have HF:=Lib.hid (show E=(1,0,0) from by rw[←HE.out];rfl)
  go_enter Try.func31,Try.ntmps31
  go_wp2_with fail
  refine (HR1.out _ (((Since.refl _).alloc _).alloc _)).mono ?_
  rintro e w1 ⟨rfl,hs1⟩
  go_wp2
  go_ret3
  exact⟨by rw[HF.out];rfl,(((Since.refl _).alloc _).alloc _).trans hs1⟩
 cases R2
 ·have HF:=Lib.hid (show E=(1,0,0) from by rw[←HE.out];rfl)
  go_enter Try.func31,Try.ntmps31
  go_wp2_with fail
  refine (HR1.out _ (((Since.refl _).alloc _).alloc _)).mono ?_
  rintro e w1 ⟨rfl,hs1⟩
  have hcq:=fun i=>hs1.cell (p:=⟨w.heap.size+1,i,none⟩) (by simp)
  have hz1:=hs1.size
  simp only[World.size_alloc]at hz1
  have HS1:=Lib.hid ((((Since.refl w).alloc _).alloc _).trans hs1)
  clear hs1
  go_wp2_with fail
  refine (HR2.out _ HS1.out).mono ?_
  rintro e w2 ⟨rfl,hs2⟩
  go_wp2
  go_ret3
  exact⟨by rw[HF.out];rfl,HS1.out.trans hs2⟩
 cases e0:(pp==qp)
 ·have HF:=Lib.hid (show E=(50,0,0) from by rw[←HE.out,e0];rfl)
  have n0:(pp != qp)=true:=by rw[bne,e0];rfl
  clear e0
  go_enter Try.func31,Try.ntmps31
  go_wp2_with fail
  refine (HR1.out _ (((Since.refl _).alloc _).alloc _)).mono ?_
  rintro e w1 ⟨rfl,hs1⟩
  have hcp:=fun i=>hs1.cell (p:=⟨w.heap.size,i,none⟩) (by simp;omega)
  have hcq:=fun i=>hs1.cell (p:=⟨w.heap.size+1,i,none⟩) (by simp)
  have hz1:=hs1.size
  simp only[World.size_alloc]at hz1
  have HS1:=Lib.hid hs1
  clear hs1
  go_wp2_with fail
  refine (HR2.out _ ((((Since.refl w).alloc _).alloc _).trans HS1.out)).mono ?_
  rintro e w2 ⟨rfl,hs2⟩
  have hcp2:=fun i=>(hs2.cell (p:=⟨w.heap.size,i,none⟩) (by show w.heap.size<w1.heap.size;omega)).trans (hcp i)
  have hcq2:=fun i=>(hs2.cell (p:=⟨w.heap.size+1,i,none⟩) (by show w.heap.size+1<w1.heap.size;omega)).trans (hcq i)
  have hz2:w.heap.size+1<w2.heap.size:=by have:=hs2.size;omega
  have HS2:=Lib.hid (HS1.out.trans hs2)
  clear hs2 hcp hcq hz1
  go_wp2
  go_ret3
  exact⟨by rw[HF.out];rfl,(((Since.refl w).alloc _).alloc _).trans HS2.out⟩
 cases e1:(pk==qk)
 ·have HF:=Lib.hid (show E=(50,0,0) from by rw[←HE.out,e0,e1];rfl)
  have n0:(pp != qp)=false:=by rw[bne,e0];rfl
  have n1:(pk != qk)=true:=by rw[bne,e1];rfl
  clear e0 e1
  go_enter Try.func31,Try.ntmps31
  go_wp2_with fail
  refine (HR1.out _ (((Since.refl _).alloc _).alloc _)).mono ?_
  rintro e w1 ⟨rfl,hs1⟩
  have hcp:=fun i=>hs1.cell (p:=⟨w.heap.size,i,none⟩) (by simp;omega)
  have hcq:=fun i=>hs1.cell (p:=⟨w.heap.size+1,i,none⟩) (by simp)
  have hz1:=hs1.size
  simp only[World.size_alloc]at hz1
  have HS1:=Lib.hid hs1
  clear hs1
  go_wp2_with fail
  refine (HR2.out _ ((((Since.refl w).alloc _).alloc _).trans HS1.out)).mono ?_
  rintro e w2 ⟨rfl,hs2⟩
  have hcp2:=fun i=>(hs2.cell (p:=⟨w.heap.size,i,none⟩) (by show w.heap.size<w1.heap.size;omega)).trans (hcp i)
  have hcq2:=fun i=>(hs2.cell (p:=⟨w.heap.size+1,i,none⟩) (by show w.heap.size+1<w1.heap.size;omega)).trans (hcq i)
  have hz2:w.heap.size+1<w2.heap.size:=by have:=hs2.size;omega
  have HS2:=Lib.hid (HS1.out.trans hs2)
  clear hs2 hcp hcq hz1
  go_wp2
  go_ret3
  exact⟨by rw[HF.out];rfl,(((Since.refl w).alloc _).alloc _).trans HS2.out⟩
 cases e2:(ps==qs)
 ·have HF:=Lib.hid (show E=(50,0,0) from by rw[←HE.out,e0,e1,e2];rfl)
  have n0:(pp != qp)=false:=by rw[bne,e0];rfl
  have n1:(pk != qk)=false:=by rw[bne,e1];rfl
  have n2:(ps != qs)=true:=by rw[bne,e2];rfl
  clear e0 e1 e2
  go_enter Try.func31,Try.ntmps31
  go_wp2_with fail
  refine (HR1.out _ (((Since.refl _).alloc _).alloc _)).mono ?_
  rintro e w1 ⟨rfl,hs1⟩
  have hcp:=fun i=>hs1.cell (p:=⟨w.heap.size,i,none⟩) (by simp;omega)
  have hcq:=fun i=>hs1.cell (p:=⟨w.heap.size+1,i,none⟩) (by simp)
  have hz1:=hs1.size
  simp only[World.size_alloc]at hz1
  have HS1:=Lib.hid hs1
  clear hs1
  go_wp2_with fail
  refine (HR2.out _ ((((Since.refl w).alloc _).alloc _).trans HS1.out)).mono ?_
  rintro e w2 ⟨rfl,hs2⟩
  have hcp2:=fun i=>(hs2.cell (p:=⟨w.heap.size,i,none⟩) (by show w.heap.size<w1.heap.size;omega)).trans (hcp i)
  have hcq2:=fun i=>(hs2.cell (p:=⟨w.heap.size+1,i,none⟩) (by show w.heap.size+1<w1.heap.size;omega)).trans (hcq i)
  have hz2:w.heap.size+1<w2.heap.size:=by have:=hs2.size;omega
  have HS2:=Lib.hid (HS1.out.trans hs2)
  clear hs2 hcp hcq hz1
  go_wp2
  go_ret3
  exact⟨by rw[HF.out];rfl,(((Since.refl w).alloc _).alloc _).trans HS2.out⟩
 by_cases hl:pn=qn
 ·subst hl
  have nl:((pn:Int) != (pn:Int))=false:=by simp
  have HF1:=Lib.hid (show E=chkOut (checkGo pl ql 0) from by rw[←HE.out,e0,e1,e2,decide_eq_true rfl];rfl)
  have n0:(pp != qp)=false:=by rw[bne,e0];rfl
  have n1:(pk != qk)=false:=by rw[bne,e1];rfl
  have n2:(ps != qs)=false:=by rw[bne,e2];rfl
  clear e0 e1 e2
  go_enter Try.func31,Try.ntmps31
  go_wp2_with fail
  refine (HR1.out _ (((Since.refl _).alloc _).alloc _)).mono ?_
  rintro e w1 ⟨rfl,hs1⟩
  have hcp:=fun i=>hs1.cell (p:=⟨w.heap.size,i,none⟩) (by simp;omega)
  have hcq:=fun i=>hs1.cell (p:=⟨w.heap.size+1,i,none⟩) (by simp)
  have hz1:=hs1.size
  simp only[World.size_alloc]at hz1
  have HS1:=Lib.hid hs1
  clear hs1
  go_wp2_with fail
  refine (HR2.out _ ((((Since.refl w).alloc _).alloc _).trans HS1.out)).mono ?_
  rintro e w2 ⟨rfl,hs2⟩
  have hcp2:=fun i=>(hs2.cell (p:=⟨w.heap.size,i,none⟩) (by show w.heap.size<w1.heap.size;omega)).trans (hcp i)
  have hcq2:=fun i=>(hs2.cell (p:=⟨w.heap.size+1,i,none⟩) (by show w.heap.size+1<w1.heap.size;omega)).trans (hcq i)
  have hz2:w.heap.size+1<w2.heap.size:=by have:=hs2.size;omega
  have HS2:=Lib.hid (HS1.out.trans hs2)
  clear hs2 hcp hcq hz1
  have hsb:CSt w #[.int .i64 pp,.int .i64 pk,.int .i64 ps,.slice pa pn pc] #[.int .i64 qp,.int .i64 qk,.int .i64 qs,.slice qa pn qc] w2:=⟨(HS2.out.block _ (by simp;omega)).trans ((((Since.refl _).alloc _).block _ (by simp)).trans (heap_last _ _)),(HS2.out.block _ (by simp)).trans (by have h:=heap_last (w.alloc (.cells #[.int .i64 pp,.int .i64 pk,.int .i64 ps,.slice pa pn pc] 24)) (.cells #[.int .i64 qp,.int .i64 qk,.int .i64 qs,.slice qa pn qc] 24);rw[World.size_alloc]at h;exact h),(((Since.refl w).alloc _).alloc _).trans HS2.out⟩
  have HSB:=Lib.hid hsb
  clear hsb HR1 HR2
  go_wp2_with fail
  clear hcp2 hcq2 hz2 HS1 HS2
  go_loopw [49] (fun i wr=>∃ k:Nat,k≤pn∧i=.int .i64 k∧CSt w #[.int .i64 pp,.int .i64 pk,.int .i64 ps,.slice pa pn pc] #[.int .i64 qp,.int .i64 qk,.int .i64 qs,.slice qa pn qc] wr∧CkAt pl ql k) (fun i _=>pn-(intOf i).toNat)
  case atStart=>exact⟨0,Nat.zero_le _,rfl,HSB.out,CkAt.start _ _⟩
  case round =>
   clear HSB
   obtain⟨k,hk,rfl,hst,hgo⟩:=hrel
   have HST:=Lib.hid hst
   have HGO:=Lib.hid hgo
   clear hst hgo
   by_cases hlt:k<pn
   ·obtain⟨B,off,x,rfl,hB,hx,hcx,hokx⟩:=RowIn.at HP1.out (by rw[HPN.out];exact hlt)
    obtain⟨B2,off2,y,rfl,hB2,hy,hcy,hoky⟩:=RowIn.at HQ1.out (by rw[HQN.out];exact hlt)
    have hbl:=fun w3 (s:Since w w3)=>blocks_any x y w3 (BlkOk.keep _ _ _ hokx s) (BlkOk.keep _ _ _ hoky s)
    obtain⟨bp,hbp⟩:∃ z,(blocksE x y).1=z:=⟨_,rfl⟩
    obtain⟨bo,hbo⟩:∃ z,(blocksE x y).2=z:=⟨_,rfl⟩
    have hnext:bo=true→CkAt pl ql (k+1):=fun e=>HGO.out.next hx hy (by rw[hbo,e])
    have hbad:bo=false→checkGo pl ql 0=some (k,bp):=fun e=>by rw[←hbp];exact HGO.out.bad hx hy (by rw[hbo,e])
    rw[hbp,hbo]at hbl
    obtain⟨xi,xv,⟨xo,xa,xb,xt,xtv,xm⟩⟩:=x
    obtain⟨yi,yv,⟨yo,ya,yb,yt,ytv,ym⟩⟩:=y
    obtain⟨x1,x2,hxv,_⟩:=hokx.1.shape
    obtain⟨y1,y2,hyv,_⟩:=hoky.1.shape
    obtain⟨x3,x4,hxt⟩:=nums_lenI hokx.2.1
    obtain⟨y3,y4,hyt⟩:=nums_lenI hoky.2.1
    dsimp only at hxv hyv hxt hyt
    subst hxv
    subst hyv
    subst hxt
    subst hyt
    unfold bkv at hbl
    dsimp only at hbl
    obtain⟨xn,hxn⟩:∃ z,xi.length=z:=⟨_,rfl⟩
    obtain⟨yn,hyn⟩:∃ z,yi.length=z:=⟨_,rfl⟩
    obtain⟨xtn,hxtn⟩:∃ z,xt.length=z:=⟨_,rfl⟩
    obtain⟨ytn,hytn⟩:∃ z,yt.length=z:=⟨_,rfl⟩
    have hcx2:∀ t v,(blcells { ins:=xi,insv:=.slice x1 xn x2,fin:={ op:=xo,a:=xa,b:=xb,to:=xt,tov:=.slice x3 xtn x4,imm:=xm } })[t]? = some v→w.cell? ⟨B,off+k*6+t,none⟩=some v:=fun t v ht=>(hcx t (by have:=(List.getElem?_eq_some_iff.1 ht).1;exact this)).trans (by rw[hxn,hxtn];exact ht)
    have hcy2:∀ t v,(blcells { ins:=yi,insv:=.slice y1 yn y2,fin:={ op:=yo,a:=ya,b:=yb,to:=yt,tov:=.slice y3 ytn y4,imm:=ym } })[t]? = some v→w.cell? ⟨B2,off2+k*6+t,none⟩=some v:=fun t v ht=>(hcy t (by have:=(List.getElem?_eq_some_iff.1 ht).1;exact this)).trans (by rw[hyn,hytn];exact ht)
    rw[hxn,hyn,hxtn,hytn]at hbl
    have HBL:=Lib.hid hbl
    have HNX:=Lib.hid hnext
    have HBD:=Lib.hid hbad
    have HCX:=Lib.hid (fun w3 (s:Since w w3) t v (ht:_=some v)=>(s.cell (p:=⟨B,off+k*6+t,none⟩) hB).trans (hcx2 t v ht))
    have HCY:=Lib.hid (fun w3 (s:Since w w3) t v (ht:_=some v)=>(s.cell (p:=⟨B2,off2+k*6+t,none⟩) hB2).trans (hcy2 t v ht))
    clear hbl hnext hbad hcx hcy hcx2 hcy2 hxn hyn hxtn hytn hokx hoky hbp hbo hx hy
    go_wp2_with fail
    refine wp_region_since_tail 15 rfl (by decide +kernel) (by decide +kernel) (by decide +kernel) (by decide)
     [Is (.pointer (some ⟨w.heap.size,3,none⟩)),Is (.slice (some ⟨B,off,none⟩) pn pc),Is (.int .i64 k),Is (.pointer (some ⟨B,off+k*6,none⟩)),Is (.agg #[.slice x1 xn x2,.int .i64 xo,.int .i64 xa,.int .i64 xb,.slice x3 xtn x4,.int .i32 xm]),Is (.pointer (some ⟨w.heap.size+1,3,none⟩)),Is (.slice (some ⟨B2,off2,none⟩) pn qc),Is (.int .i64 k),Is (.pointer (some ⟨B2,off2+k*6,none⟩)),Is (.agg #[.slice y1 yn y2,.int .i64 yo,.int .i64 ya,.int .i64 yb,.slice y3 ytn y4,.int .i32 ym]),Is (.tuple #[.int .i64 (bp:Int),.bool bo]),Is (.tuple #[.int .i64 (bp:Int),.bool bo]),Is (.int .i64 (bp:Int)),Is (.bool bo),Is (.int .i64 (bp:Int))]
     (by repeat (first | exact trivial | refine⟨Is.stable _,?_⟩ | refine⟨Any.stable,?_⟩ | refine⟨IsNums.stable _ _,?_⟩)) ⟨?_,?_,?_,?_,?_,?_,?_,?_,?_,?_,?_,?_,?_,?_,?_,trivial⟩ ?_
    rotate_right
    ·intro vs w4 hs hk
     simp only[List.take,List.drop,putAll,Act.put,KnowsAll,nthF,Is,List.setIfInBounds_toArray,List.set_cons_zero,List.set_cons_succ,Nat.reduceAdd]at hk ⊢
     try simp only[hk]
     have HST4:=Lib.hid (HST.out.keep hs)
     clear hs
     cases bo
     ·go_wp2
      go_ret3
      exact⟨by rw[HF1.out,HBD.out (by trivial)];rfl,HST4.out.2.2⟩
     ·go_wp2
      go_roundw
      case rel=>exact⟨k+1,by omega,by go_num,HST4.out,HNX.out (by trivial)⟩
      case measure=>simp[intOf];omega
    all_goals
     intro vs w4 hs hk _
     simp only[List.take,putAll,Act.put,Knows,nthF,Is,List.setIfInBounds_toArray,List.set_cons_zero,List.set_cons_succ,Nat.reduceAdd]at hk ⊢
     try simp only[hk]
    ·go_wp2
     exact⟨_,rfl,rfl,Since.refl _⟩
    ·have hc:=cells_at ((hs.block _ (lt_at HST.out.1)).trans HST.out.1)
     have hl:=lt_at ((hs.block _ (lt_at HST.out.1)).trans HST.out.1)
     go_wp2
     exact⟨_,rfl,rfl,Since.refl _⟩
    ·go_wp2
     exact⟨_,rfl,rfl,Since.refl _⟩
    ·go_wp2
     exact⟨_,rfl,rfl,Since.refl _⟩
    ·have c0:=HCX.out w4 (HST.out.2.2.trans hs) 0 _ rfl
     have c1:=HCX.out w4 (HST.out.2.2.trans hs) 1 _ rfl
     have c2:=HCX.out w4 (HST.out.2.2.trans hs) 2 _ rfl
     have c3:=HCX.out w4 (HST.out.2.2.trans hs) 3 _ rfl
     have c4:=HCX.out w4 (HST.out.2.2.trans hs) 4 _ rfl
     have c5:=HCX.out w4 (HST.out.2.2.trans hs) 5 _ rfl
     have hl:B<w4.heap.size:=Nat.lt_of_lt_of_le hB (HST.out.2.2.trans hs).size
     rw[Nat.add_zero]at c0
     go_wp2
     exact⟨_,rfl,rfl,Since.refl _⟩
    ·go_wp2
     exact⟨_,rfl,rfl,Since.refl _⟩
    ·have hc:=cells_at ((hs.block _ (lt_at HST.out.2.1)).trans HST.out.2.1)
     have hl:=lt_at ((hs.block _ (lt_at HST.out.2.1)).trans HST.out.2.1)
     go_wp2
     exact⟨_,rfl,rfl,Since.refl _⟩
    ·go_wp2
     exact⟨_,rfl,rfl,Since.refl _⟩
    ·go_wp2
     exact⟨_,rfl,rfl,Since.refl _⟩
    ·have c0:=HCY.out w4 (HST.out.2.2.trans hs) 0 _ rfl
     have c1:=HCY.out w4 (HST.out.2.2.trans hs) 1 _ rfl
     have c2:=HCY.out w4 (HST.out.2.2.trans hs) 2 _ rfl
     have c3:=HCY.out w4 (HST.out.2.2.trans hs) 3 _ rfl
     have c4:=HCY.out w4 (HST.out.2.2.trans hs) 4 _ rfl
     have c5:=HCY.out w4 (HST.out.2.2.trans hs) 5 _ rfl
     have hl:B2<w4.heap.size:=Nat.lt_of_lt_of_le hB2 (HST.out.2.2.trans hs).size
     rw[Nat.add_zero]at c0
     go_wp2
     exact⟨_,rfl,rfl,Since.refl _⟩
    ·have HC:=Lib.hid (HBL.out w4 (HST.out.2.2.trans hs))
     clear hs
     go_wp2_with fail
     refine HC.out.mono ?_
     rintro e w5 ⟨rfl,hs5⟩
     go_wp2
     exact⟨_,rfl,rfl,hs5⟩
    ·go_wp2
     exact⟨_,rfl,rfl,Since.refl _⟩
    ·go_wp2
     exact⟨_,rfl,rfl,Since.refl _⟩
    ·go_wp2
     exact⟨_,rfl,rfl,Since.refl _⟩
    ·go_wp2
     exact⟨_,rfl,rfl,Since.refl _⟩
   ·obtain rfl:pn=k:=by omega
    have HF:=Lib.hid (show checkGo pl ql 0=none from CkAt.done (by rw[HPN.out];exact HGO.out))
    go_wp2
    go_ret3
    exact⟨by rw[HF1.out,HF.out];rfl,HST.out.2.2⟩
 ·have nl:((pn:Int) != (qn:Int))=true:=by simp;omega
  have HF:=Lib.hid (show E=(50,0,0) from by rw[←HE.out,e0,e1,e2,decide_eq_false hl];rfl)
  have n0:(pp != qp)=false:=by rw[bne,e0];rfl
  have n1:(pk != qk)=false:=by rw[bne,e1];rfl
  have n2:(ps != qs)=false:=by rw[bne,e2];rfl
  clear e0 e1 e2 hl
  go_enter Try.func31,Try.ntmps31
  go_wp2_with fail
  refine (HR1.out _ (((Since.refl _).alloc _).alloc _)).mono ?_
  rintro e w1 ⟨rfl,hs1⟩
  have hcp:=fun i=>hs1.cell (p:=⟨w.heap.size,i,none⟩) (by simp;omega)
  have hcq:=fun i=>hs1.cell (p:=⟨w.heap.size+1,i,none⟩) (by simp)
  have hz1:=hs1.size
  simp only[World.size_alloc]at hz1
  have HS1:=Lib.hid hs1
  clear hs1
  go_wp2_with fail
  refine (HR2.out _ ((((Since.refl w).alloc _).alloc _).trans HS1.out)).mono ?_
  rintro e w2 ⟨rfl,hs2⟩
  have hcp2:=fun i=>(hs2.cell (p:=⟨w.heap.size,i,none⟩) (by show w.heap.size<w1.heap.size;omega)).trans (hcp i)
  have hcq2:=fun i=>(hs2.cell (p:=⟨w.heap.size+1,i,none⟩) (by show w.heap.size+1<w1.heap.size;omega)).trans (hcq i)
  have hz2:w.heap.size+1<w2.heap.size:=by have:=hs2.size;omega
  have HS2:=Lib.hid (HS1.out.trans hs2)
  clear hs2 hcp hcq hz1
  go_wp2
  go_ret3
  exact⟨by rw[HF.out];rfl,(((Since.refl w).alloc _).alloc _).trans HS2.out⟩
end Go.Proofs.Ytkpbmbhejpmboaa
