import Derived.Test.YtimpddecdodddaaGreatSt04
import Derived.OwnWalk
namespace Go.Proofs.YtimpddecdodddaaGreat
open Go.Proofs.Tryz Go.RowKit Go.Lib
set_option linter.unusedVariables false
set_option maxHeartbeats 4000000
set_option maxRecDepth 100000
theorem yW {P:Prop} (h:P:=by
 go_enter func56,ntmps56
 go_wp2
 go_ret2
 exact⟨rfl,((Since.refl _).alloc _).alloc _⟩):P:=h
theorem zak {P:Prop} (h:P:=by rw[TI.out.2.2.2];omega):P:=h
theorem mflat (cs:Array Value) (h:0<cs.size):∀ n,(madeCells cs (n*cs.size)).toList=(List.replicate n cs.toList).flatten
 | 0=>by simp[madeCells]
 | n+1=>by
  rw[List.replicate_succ',List.flatten_append,←mflat cs h n]
  have e1:∀ k,(madeCells cs k).toList=(List.range k).map fun i=>cs[i % cs.size]!:=fun k=>by simp[madeCells]
  rw[e1,e1,Nat.succ_mul,List.range_add,List.map_append]
  congr 1
  apply List.ext_getElem?
  intro t
  by_cases ht:t<cs.size
  ·simp[ht,Nat.mul_add_mod_of_lt ht]
  ·rw[List.getElem?_eq_none zaE,List.getElem?_eq_none zaE]
theorem Zc0:∀ n,(List.replicate n (Value.bool false).cells.toList).flatten=List.replicate n (Value.bool false)
 | 0=>rfl
 | n+1=>by rw[List.replicate_succ,List.flatten_cons,Zc0 n];rfl
theorem Zc2 {w w1:World} {n : Nat} {T : TypeId} (hd:w1.ownsRow w.heap.size T 1 (.slice (some ⟨w.heap.size,0,none⟩) n n) n (madeCells (Value.bool false).cells (n*1)).toList) (hc:w.grownBy w1 none):Since w w1∧w1.heap[w.heap.size]? = some (.cells ((List.replicate n false).map Value.bool).toArray T (0,0)):=by
 have hs:Since w w1:=Below.grown (Since.refl w) hc (Nat.le_refl _) (fun _ h=>by cases h);refine⟨hs,?_⟩;obtain⟨_,⟨hv,_⟩|⟨g,cap,cur,hv,_,hg,_,_,hb,ha⟩⟩:=hd
 ·cases hv
 ·injection hv with hv hf he
  injection hv with hv
  injection hv with hv
  subst hv;subst he;rw[hg];have h1:cur.toList=(List.replicate n false).map Value.bool:=by
   rw[List.take_of_length_le (by rw[Array.length_toList,hb];exact Nat.le_refl _)]at ha;rw[ha,show n*1=n*(Value.bool false).cells.size from rfl,mflat _ zaJ,List.map_replicate];exact Zc0 n
  rw[←h1]
def bkv (b:Zx):Value:=.agg #[b.insv,.int .i64 b.fin.op,.int .i64 b.fin.a,.int .i64 b.fin.b,b.fin.tov,.int .i32 b.fin.imm]
def Y4 (l:List PlV):List PlV→List Bool→Nat→Option Nat
 | [],_,_=>none
 | x::r,found,i=>if findI l found x<0 then some i else Y4 l r (found.set (findI l found x).toNat true) (i+1)
def blkOut (n:Nat) (b:Bool):Option Nat→Nat × Bool
 | some i=>(i,false)
 | none=>(n,b)
def YD (p q:Zx):Nat × Bool:=
 if q.ins.length=p.ins.length then blkOut p.ins.length (YZ p.fin q.fin) (Y4 p.ins q.ins (List.replicate p.ins.length false) 0)
 else (min p.ins.length q.ins.length,false)
theorem J8 (l:List PlV) (x:PlV):∀ r:List (Fin l.length),-1≤YR l x r∧YR l x r<l.length
 | []=>by unfold YR;omega
 | k::r=>by
  have:=J8 l x r
  have:=k.isLt
  unfold YR
  split
  ·omega
  ·split<;>omega
theorem Zbh (l:List PlV) (found:List Bool) (x:PlV) : -1≤findI l found x∧findI l found x<l.length:=J8 l x _
def XJ (l m:List PlV) (k:Nat) (found:List Bool):Prop:=Y4 l m (List.replicate l.length false) 0=Y4 l (m.drop k) found k
theorem XJ.start (l m:List PlV):XJ l m 0 (List.replicate l.length false):=rfl
theorem XJ.next {l m:List PlV} {k : Nat} {found:List Bool} {x : PlV} (h:XJ l m k found) (hx:m[k]? = some x) (hf:¬ findI l found x<0):XJ l m (k+1) (found.set (findI l found x).toNat true):=by
 unfold XJ at *;rw[h,List.drop_eq_getElem_cons (List.getElem?_eq_some_iff.1 hx).1,(List.getElem?_eq_some_iff.1 hx).2];show (if findI l found x<0 then _ else _)=_
 rw[if_neg hf]
theorem XJ.bad {l m:List PlV} {k : Nat} {found:List Bool} {x : PlV} (h:XJ l m k found) (hx:m[k]? = some x) (hf:findI l found x<0):Y4 l m (List.replicate l.length false) 0=some k:=by
 unfold XJ at h;rw[h,List.drop_eq_getElem_cons (List.getElem?_eq_some_iff.1 hx).1,(List.getElem?_eq_some_iff.1 hx).2];show (if findI l found x<0 then _ else _)=_
 rw[if_pos hf]
theorem XJ.done {l m:List PlV} {found:List Bool} (h:XJ l m m.length found):Y4 l m (List.replicate l.length false) 0=none:=by
 unfold XJ at h;rw[h,List.drop_length];rfl
def Zfv (k:Nat) (p:Bool) (w:World) (e:Ending) (w':World):Prop:=e=.returned (.tuple #[.int .i64 (k:Int),.bool p])∧Since w w'
theorem ZcB {W : World} {B : Nat} {found:List Bool} {T : TypeId} (h:W.heap[B]? = some (.cells (found.map Value.bool).toArray T (0,0))) (p:Nat):(W.setCell ⟨B,p,none⟩ (.bool true)).heap[B]? = some (.cells ((found.set p true).map Value.bool).toArray T (0,0)):=by
 obtain⟨ha,hk⟩:=Array.getElem?_eq_some_iff.1 h;show (W.heap.modify B _)[B]? = _
 rw[Array.getElem?_modify,h];simp[List.map_set]
theorem QZ {W : World} {B : Nat} {cs:Array Value} {t : TypeId} (h:W.heap[B]? = some (.cells cs t (0,0))) (i:Nat):W.frozen? ⟨B,i,none⟩=false:=by simp[World.frozen?,h]
theorem Ja {W : World} {B b p:Nat} {v : Value} (h:B≠b):(W.setCell ⟨b,p,none⟩ v).heap[B]? = W.heap[B]?:=by
 show (W.heap.modify b _)[B]? = _
 rw[Array.getElem?_modify,if_neg (fun e=>h e.symm)]
def BSt (w:World) (P Q:Array Value) (found:List Bool) (wr:World):Prop:=
 wr.heap[w.heap.size]? = some (.cells P 34 (0,0))∧wr.heap[w.heap.size+1]? = some (.cells Q 34 (0,0))∧wr.heap[w.heap.size+2]? = some (.cells (found.map Value.bool).toArray 4 (0,0))∧Since w wr
theorem BSt.keep {w wr w2:World} {P Q:Array Value} {found:List Bool} (h:BSt w P Q found wr) (s:Since wr w2):BSt w P Q found w2:=
 ⟨(s.block _ (Z9 h.1)).trans h.1,(s.block _ (Z9 h.2.1)).trans h.2.1,(s.block _ (Z9 h.2.2.1)).trans h.2.2.1,h.2.2.2.trans s⟩
theorem BSt.set {w wr:World} {P Q:Array Value} {found:List Bool} (h:BSt w P Q found wr) (p:Nat):BSt w P Q (found.set p true) (wr.setCell ⟨w.heap.size+2,p,none⟩ (.bool true)):=
 ⟨(Ja zaK).trans h.1,(Ja zaK).trans h.2.1,ZcB h.2.2.1 p,h.2.2.2.setCell (p:=⟨w.heap.size+2,p,none⟩) (by show w.heap.size≤w.heap.size+2;omega) _⟩
theorem Zcf (p q:Zx) (w:World) (hp:BlkOk w p) (hq:BlkOk w q):Calls prog 56 #[bkv p,bkv q] w (Zfv (YD p q).1 (YD p q).2 w):=by
 obtain⟨l,lv,pe⟩:=p;obtain⟨m,mv0,qe⟩:=q;obtain⟨hy,hw,hX⟩:=hp;obtain⟨hv,hu,hV⟩:=hq;dsimp only at hy hw hX hv hu hV;obtain⟨la,lc,rfl,hF⟩:=hy.shape;obtain⟨ma,mc,rfl,hE⟩:=hv.shape;obtain⟨po,pa,pb,pt,ptv,pi⟩:=pe;obtain⟨qo,qa,qb,qt,qtv,qi⟩:=qe;obtain⟨pta,ptc,hW⟩:=Zc hw;obtain⟨qta,qtc,hU⟩:=Zc hu;dsimp only at hW hU;subst hW;subst hU;obtain⟨ptl,ho⟩:∃ x,pt.length=x:=⟨_,rfl⟩
 obtain⟨qtl,hm⟩:∃ x,qt.length=x:=⟨_,rfl⟩
 obtain⟨n,hn⟩:∃ x,l.length=x:=⟨_,rfl⟩
 obtain⟨k0,hG⟩:∃ x,m.length=x:=⟨_,rfl⟩
 have Hp:=hid hy;have Ho:=hid hw;have Hm:=hid hv;have Hl:=hid hu;have HN:=hid hn;have HK:=hid hG;have Hn:=hid ho;have Hk:=hid hm;unfold maxLen at hF hE;unfold bkv YD;dsimp only;rw[hn]at hX hF ⊢;rw[hG]at hV hE ⊢;rw[ho,hm];clear hy hw hv hu hn hG ho hm hF hE;by_cases hl:k0=n
 ·subst hl;rw[if_pos rfl];obtain⟨R,hR⟩:∃ R,Y4 l m (List.replicate k0 false) 0=R:=⟨_,rfl⟩
  obtain⟨SB,hK⟩:∃ SB,YZ { op:=po,a:=pa,b:=pb,to:=pt,tov:=Value.slice pta ptl ptc,imm:=pi } { op:=qo,a:=qa,b:=qb,to:=qt,tov:=Value.slice qta qtl qtc,imm:=qi }=SB:=⟨_,rfl⟩
  rw[hR,hK];rw[←HN.out]at hR;have HR:=hid hR;have Hj:=hid hK;clear hR hK;have Hb:((k0:Int) != (k0:Int))=false:=by simp
  have hH:(prog.info? 4).map (fun i=>(i.zero,i.size,i.bytes))=some (some (.bool false),1,1):=by kernel_rfl
  obtain⟨ti,hT,hQ,hg,hP⟩:=info_parts hH;have TI:=hid (And.intro hT (And.intro hQ (And.intro hg hP)));clear hH hT hQ hg hP;go_enter func56,ntmps56
  go_wp2_with (refine wpList_make_full _ rfl (.tmp 24) (.tmp 24) 144 rfl _ 4 ti (.bool false) 1 underlying144 TI.out.1 TI.out.2.1 TI.out.2.2.1 .i64 .i64 _ _ k0 rfl rfl rfl rfl zak zaq (Nat.le_refl _) ?_;intro w1 hC hz;have hi:=Zc2 hC hz;have hj:=hid hi;have Hg:=fun i=>hi.1.cell (p:=⟨w.heap.size,i,none⟩) zaE;have Hf:=fun i=>hi.1.cell (p:=⟨w.heap.size+1,i,none⟩) zaL;have hg:=hi.1.size;simp only[World.size_alloc]at hg;clear hC hz hi)
  have h6:=hid (show BSt w #[.slice la k0 lc,.int .i64 po,.int .i64 pa,.int .i64 pb,.slice pta ptl ptc,.int .i32 pi] #[.slice ma k0 mc,.int .i64 qo,.int .i64 qa,.int .i64 qb,.slice qta qtl qtc,.int .i32 qi] (List.replicate k0 false) w1 from
   ⟨(hj.out.1.block _ zaE).trans ((((Since.refl _).alloc _).block _ zaL).trans (ZG _ _)),(hj.out.1.block _ zaL).trans (by have h:=ZG (w.alloc (.cells #[.slice la k0 lc,.int .i64 po,.int .i64 pa,.int .i64 pb,.slice pta ptl ptc,.int .i32 pi] 34)) (.cells #[.slice ma k0 mc,.int .i64 qo,.int .i64 qa,.int .i64 qb,.slice qta qtl qtc,.int .i32 qi] 34);rw[World.size_alloc]at h;exact h),by have h:=hj.out.2;simp only[World.size_alloc]at h;exact h,(((Since.refl w).alloc _).alloc _).trans hj.out.1⟩)
  clear hj Hg Hf hg
  go_loopw [29] (fun i wr=>∃ (k:Nat) (found:List Bool),k≤k0∧i=.int .i64 k∧BSt w #[.slice la k0 lc,.int .i64 po,.int .i64 pa,.int .i64 pb,.slice pta ptl ptc,.int .i32 pi] #[.slice ma k0 mc,.int .i64 qo,.int .i64 qa,.int .i64 qb,.slice qta qtl qtc,.int .i32 qi] found wr∧found.length=k0∧XJ l m k found) (fun i _=>k0-(intOf i).toNat)
  case atStart=>exact⟨0,_,Nat.zero_le _,rfl,h6.out,by simp,by rw[←HN.out];exact XJ.start l m⟩
  case round =>
   obtain⟨k,found,hk,rfl,ha,h2,h1⟩:=hrel;have hL:=hid ha;have hN:=hid h2;have hM:=hid h1;clear h2 h1 h6;by_cases hY:k<k0
   ·obtain⟨B,off,x,rfl,hB,hx,h3,hD⟩:=RowIn.at Hm.out (by rw[HK.out];exact hY);have hc:=fun t ht=>(ha.2.2.2.cell (p:=⟨B,off+k*9+t,none⟩) hB).trans (h3 t ht)
    have HX:=hid hx;have Hw:B<wr.heap.size:=Nat.lt_of_lt_of_le hB ha.2.2.2.size;have hZ:w.heap.size<wr.heap.size:=Z9 ha.1;have Hc:w.heap.size+2<wr.heap.size:=Z9 ha.2.2.1;obtain⟨⟨xo,xd,xe,xa,xb,xc,xi,xr⟩,xv,xs⟩:=x;obtain⟨xva,xvc,hS⟩:=Zc hD.1;dsimp only at hS;subst hS;have Hq:=hid hD;obtain⟨xl,hA⟩:∃ q,xr.length=q:=⟨_,rfl⟩
    have q0:wr.cell? ⟨B,off+k*9,none⟩=some (.int .i64 xo):=hc 0 zaJ;have q1:wr.cell? ⟨B,off+k*9+1,none⟩=some (.int .i64 xd):=hc 1 zaJ;have q2:wr.cell? ⟨B,off+k*9+2,none⟩=some (.int .i64 xe):=hc 2 zaJ;have q3:wr.cell? ⟨B,off+k*9+3,none⟩=some (.int .i64 xa):=hc 3 zaJ;have q4:wr.cell? ⟨B,off+k*9+4,none⟩=some (.int .i64 xb):=hc 4 zaJ;have q5:wr.cell? ⟨B,off+k*9+5,none⟩=some (.int .i64 xc):=hc 5 zaJ;have q6:wr.cell? ⟨B,off+k*9+6,none⟩=some (.int .i32 xi):=hc 6 zaJ;have q7:wr.cell? ⟨B,off+k*9+7,none⟩=some (.slice xva xl xvc):=by rw[←hA];exact hc 7 zaJ
    have q8:wr.cell? ⟨B,off+k*9+8,none⟩=some (.int .i64 xs):=hc 8 zaJ;have he:Since wr (wr.alloc (.cells #[.int .i64 xo,.int .i64 xd,.int .i64 xe,.int .i64 xa,.int .i64 xb,.int .i64 xc,.int .i32 xi,.slice xva xl xvc,.int .i64 xs] 38)):=(Since.refl wr).alloc _;have cpA:=fun i=>(he.cell (p:=⟨w.heap.size,i,none⟩) hZ).trans (ZX ha.1 i)
    have hb:=Zd0 (.slice la k0 lc) l (w.heap.size+2) found { m:={ op:=xo,d:=xd,e:=xe,a:=xa,b:=xb,c:=xc,imm:=xi,args:=xr },av:=Value.slice xva xr.length xvc,src:=xs } (wr.alloc (.cells #[.int .i64 xo,.int .i64 xd,.int .i64 xe,.int .i64 xa,.int .i64 xb,.int .i64 xc,.int .i32 xi,.slice xva xl xvc,.int .i64 xs] 38)) (by have h:=RowIn.keep XA.keep Hp.out (ha.2.2.2.trans he);rw[HN.out]at h;exact h) (by rw[hN.out,HN.out]) ((he.block _ Hc).trans ha.2.2.1) (XA.keep _ _ _ Hq.out (ha.2.2.2.trans he))
    have h5:=Zbh l found { m:={ op:=xo,d:=xd,e:=xe,a:=xa,b:=xb,c:=xc,imm:=xi,args:=xr },av:=Value.slice xva xr.length xvc,src:=xs };rw[HN.out]at hb h5;obtain⟨at',hJ⟩:∃ z,findI l found { m:={ op:=xo,d:=xd,e:=xe,a:=xa,b:=xb,c:=xc,imm:=xi,args:=xr },av:=Value.slice xva xr.length xvc,src:=xs }=z:=⟨_,rfl⟩
    rw[hJ]at hb h5;unfold plv at hb;dsimp only at hb;rw[hA]at hb;have h8:=hid hb;have hO:=hid hJ;have h7:=hid he;clear hc h3 hD hA hb hJ ha hB hx he;by_cases hr:at' < 0
    ·have HF:=hid (hM.out.bad HX.out (by rw[hO.out];exact hr));go_wp2_with fail
     refine h8.out.mono ?_;rintro e w2 ⟨rfl,hf⟩;go_wp2
     go_ret2
     exact⟨by rw[←HR.out,HF.out];rfl,(hL.out.2.2.2.trans h7.out).trans hf⟩
    ·have h0:0≤at':=zaK
     obtain⟨t,rfl⟩:∃ t:Nat,at'=t:=⟨at'.toNat,zaK⟩
     have HG:=hid (hM.out.next HX.out (by rw[hO.out];exact hr));have Ha:t<k0:=zaK
     clear hr;go_wp2_with fail
     refine h8.out.mono ?_;rintro e w2 ⟨rfl,hf⟩;have hd:BSt w _ _ found w2:=hL.out.keep (h7.out.trans hf);have h9:=hid hd;have hI:=ZX hd.2.2.1 t;have Ht:=Z9 hd.2.2.1;have Hv:w2.frozen? ⟨w.heap.size+2,t,none⟩=false:=QZ hd.2.2.1 t;obtain⟨bt,h4⟩:∃ b,found[t]? = some b:=⟨_,List.getElem?_eq_getElem (by rw[hN.out];exact Ha)⟩
     rw[List.getElem?_toArray,List.getElem?_map,h4]at hI;have Hu:w2.cell? ⟨w.heap.size+2,t,none⟩=some (.bool bt):=hI;clear hI h4 hd hf;go_wp2
     go_roundw
     case rel=>exact⟨k+1,_,zaK,by go_num,h9.out.set t,by rw[List.length_set];exact hN.out,by have h:=HG.out;rw[hO.out]at h;exact h⟩
     case measure=>simp[intOf];omega
   ·obtain rfl:k0=k:=zaK
    have HF:=zH (Y4 l m (List.replicate l.length false) 0=none) (XJ.done (by rw[HK.out];exact hM.out));have cp:=ZX ha.1;have cq:=ZX ha.2.1;have hZ:w.heap.size<wr.heap.size:=Z9 ha.1;have Hr:w.heap.size+1<wr.heap.size:=Z9 ha.2.1;have hs:=ha.2.2.2;have Hh:=hid hs;have hh:=Za7 { op:=po,a:=pa,b:=pb,to:=pt,tov:=Value.slice pta pt.length ptc,imm:=pi } { op:=qo,a:=qa,b:=qb,to:=qt,tov:=Value.slice qta qt.length qtc,imm:=qi } wr (Ho.out.keep hs) (Hl.out.keep hs);unfold Yp at hh;dsimp only at hh;rw[Hn.out,Hk.out,Hj.out]at hh;have Hi:=hid hh;clear hh ha hs hY hk;go_wp2_with fail
    refine Hi.out.mono ?_;rintro e w2 ⟨rfl,hf⟩;go_wp2
    go_ret2
    exact⟨by rw[←HR.out,HF.out];rfl,Hh.out.trans hf⟩
 ·rw[if_neg hl];have Hb:((k0:Int) != (n:Int))=true:=by simp;omega
  by_cases He:n≤k0
  ·rw[Nat.min_eq_left He];exact yW
  ·rw[Nat.min_eq_right zaK];have Hs:k0<n:=zaK
   exact yW
def WH (l:List PlV) (found:List Bool) (x:PlV) (k:Nat):Bool:=match l[k]? with
 | some y=>!(found.getD k true)&&(Xu y.m x.m&&y.src==x.src)
 | none=>false
def Yr (l:List PlV) (found:List Bool) (x:PlV):Nat→Int
 | 0=>-1
 | k+1=>if Yr l found x k<0 then (if WH l found x k then (k:Int) else -1) else Yr l found x k
def X0 (l:List PlV) (found:List Bool) (x:PlV) (k:Nat):Bool:=(List.range k).any fun j=>match l[j]? with
 | some y=>Zw y.m x.m&&!(found.getD j true)
 | none=>false
theorem Kk (l:List PlV) (found:List Bool) (x:PlV):∀ k:Nat,-1≤Yr l found x k∧Yr l found x k<k
 | 0=>by unfold Yr;omega
 | k+1=>by
  have:=Kk l found x k
  unfold Yr
  split
  ·split<;>omega
  ·omega
theorem ZbW (a b:List Int):numsB a b=numsB b a:=by unfold numsB;exact decide_eq_decide.2 eq_comm
theorem ZbG (a b:Mach):Xu a b=Xu b a:=by
 have e:∀ x y:Int,(x==y)=(y==x):=fun x y=>by rw[Bool.eq_iff_iff,beq_iff_eq,beq_iff_eq];exact eq_comm
 unfold Xu;rw[e a.op,e a.d,e a.e,e a.a,e a.b,e a.c,e a.imm,ZbW]
theorem Jq {l : List PlV} {found:List Bool} {x y:PlV} {k : Nat} (h:l[k]? = some y):WH l found x k=(!(found.getD k true)&&Y8 x y):=by
 unfold WH Y8;rw[h];dsimp only;rw[ZbG y.m x.m,show (y.src==x.src)=(x.src==y.src) from by rw[Bool.eq_iff_iff,beq_iff_eq,beq_iff_eq];exact eq_comm,Bool.and_comm (Xu x.m y.m)]
theorem Vp {l : List PlV} {found:List Bool} {k : Nat} {j : Fin l.length}:j∈leftsTo l found k↔j.val<k∧found.getD j.val true=false:=by
 unfold leftsTo;rw[List.mem_filterMap];constructor
 ·rintro⟨i,hi,h⟩;split at h
  ·split at h
   ·cases h
   ·rename_i h1 h2
    have:=Option.some.inj h;subst this;exact⟨List.mem_range.1 hi,by simpa using h2⟩
  ·cases h
 ·rintro⟨h1,h2⟩;exact⟨j.val,List.mem_range.2 h1,by rw[dif_pos j.isLt,if_neg (by rw[h2];decide)]⟩
theorem KX {l : List PlV} {x : PlV}:∀ {r : List (Fin l.length)},(∀ k∈r,Y8 x (l.get k)=false)→YR l x r=-1
 | [],_=>rfl
 | k::r,h=>by
  unfold YR
  rw[h k List.mem_cons_self,KX fun y hy=>h y (List.mem_cons_of_mem _ hy)]
  simp
theorem Q4 {l : List PlV} {x : PlV} {r : List (Fin l.length)}:∀ {pre:List (Fin l.length)},(∀ k∈pre,Y8 x (l.get k)=false)→(∃ k∈pre,Zw (l.get k).m x.m=true)→YR l x (pre++r)=-1
 | [],_,h=>by obtain⟨_,h,_⟩:=h;cases h
 | k::pre,h,hd=>by
  rw[List.cons_append]
  unfold YR
  rw[h k List.mem_cons_self]
  by_cases hk:Zw (l.get k).m x.m=true
  ·rw[hk];rfl
  ·have h2:Zw (l.get k).m x.m=false:=by simpa using hk
   rw[h2,Q4 (fun y hy=>h y (List.mem_cons_of_mem _ hy)) (by
    obtain⟨y,hy,ha⟩:=hd
    rcases List.mem_cons.1 hy with rfl|hy
    ·exact absurd ha hk
    ·exact⟨y,hy,ha⟩)]
   simp
theorem Jp {l : List PlV} {found:List Bool} {x : PlV}:∀ {k : Nat},Yr l found x k<0→∀ j,j<k→WH l found x j=false
 | 0,_,j,hj=>by omega
 | k+1,h,j,hj=>by
  unfold Yr at h
  split at h
  ·rename_i h1
   by_cases hb:WH l found x k=true
   ·rw[if_pos hb]at h;omega
   ·by_cases ha:j=k
    ·subst ha;simpa using hb
    ·exact Jp h1 j zaK
  ·omega
theorem QX {l : List PlV} {found:List Bool} {x : PlV} {a : Nat}:∀ {k : Nat},Yr l found x k=(a:Int)→a<k∧WH l found x a=true∧∀ j,j<a→WH l found x j=false
 | 0,h=>by unfold Yr at h;omega
 | k+1,h=>by
  unfold Yr at h
  split at h
  ·rename_i h1
   by_cases hb:WH l found x k=true
   ·rw[if_pos hb]at h
    have e:a=k:=zaK
    subst e
    exact⟨zaK,hb,fun j hj=>Jp h1 j hj⟩
   ·rw[if_neg hb]at h;omega
  ·obtain⟨h1,h2,h3⟩:=QX h
   exact⟨zaK,h2,h3⟩
theorem Kj {l : List PlV} {found:List Bool} {x : PlV} {k : Nat} (h:WH l found x k=false):Yr l found x (k+1)=Yr l found x k:=by
 have:=Kk l found x k;rw[Yr,h];split
 ·simp;omega
 ·rfl
theorem Zc9 {l : List PlV} {found:List Bool} {x : PlV} {k : Nat} (h:¬ Yr l found x k<0):Yr l found x (k+1)=Yr l found x k:=by rw[Yr,if_neg h]
theorem Zda {l : List PlV} {found:List Bool} {x : PlV} {k : Nat} (h:Yr l found x k<0) (h2:WH l found x k=true):Yr l found x (k+1)=(k:Int):=by rw[Yr,if_pos h,if_pos h2]
theorem JP {l : List PlV} {found:List Bool} {x y:PlV} {k : Nat} (h:l[k]? = some y):WH l found x k=(!(found.getD k true)&&(Xu y.m x.m&&y.src==x.src)):=by unfold WH;rw[h]
theorem V0 {l : List PlV} {found:List Bool} {x y:PlV} {k : Nat} (h:l[k]? = some y):X0 l found x (k+1)=(X0 l found x k||(Zw y.m x.m&&!(found.getD k true))):=by
 unfold X0;rw[List.range_succ,List.any_append];simp[h]
theorem Zcb {l : List PlV} {found:List Bool} {x : PlV} {k n:Nat} (h:X0 l found x k=true) (hk:k≤n):X0 l found x n=true:=by
 unfold X0 at *;obtain⟨j,hj,h2⟩:=List.any_eq_true.1 h;exact List.any_eq_true.2 ⟨j,List.mem_range.2 (by have:=List.mem_range.1 hj;omega),h2⟩
theorem ZdZ (l:List PlV) (found:List Bool) (x:PlV):findI l found x=if Yr l found x l.length<0 then -1 else if X0 l found x (Yr l found x l.length).toNat then -1 else Yr l found x l.length:=by
 unfold findI;split
 ·rename_i h
  refine KX fun k hk=>?_
  have h1:=Jp h k.val k.isLt;rw[Jq (y:=l.get k) (List.getElem?_eq_getElem k.isLt),(Vp.1 hk).2]at h1;simpa using h1
 ·rename_i h
  obtain⟨a,ha⟩:∃ a:Nat,Yr l found x l.length=(a:Int):=⟨(Yr l found x l.length).toNat,zaK⟩
  obtain⟨h1,h2,h3⟩:=QX ha;rw[ha,Int.toNat_natCast];have hy:l[a]? = some (l.get ⟨a,h1⟩):=List.getElem?_eq_getElem h1;rw[Jq hy]at h2;have hf:found.getD a true=false:=by
   cases hq:found.getD a true with
   | false=>rfl
   | true=>rw[hq]at h2;simp at h2
  have hg:Y8 x (l.get ⟨a,h1⟩)=true:=by rw[hf]at h2;simpa using h2
  obtain⟨r,hr⟩:∃ r,leftsTo l found l.length=leftsTo l found a++(⟨a,h1⟩::r):=by
   obtain⟨r,hr⟩:=Vz l found (show a+1≤l.length from h1);refine⟨r,?_⟩;rw[←hr,YU h1,hf];simp
  rw[hr];have hc:∀ k∈leftsTo l found a,Y8 x (l.get k)=false:=fun k hk=>by
   have h4:=Vp.1 hk;have h5:=h3 k.val h4.1;rw[Jq (y:=l.get k) (List.getElem?_eq_getElem k.isLt),h4.2]at h5;simpa using h5
  by_cases hd:X0 l found x a=true
  ·rw[if_pos hd];refine Q4 hc ?_;unfold X0 at hd;obtain⟨j,hj,hb⟩:=List.any_eq_true.1 hd;have he:j<l.length:=by have:=List.mem_range.1 hj;omega
   rw[List.getElem?_eq_getElem he]at hb;simp only[Bool.and_eq_true,Bool.not_eq_true']at hb;exact⟨⟨j,he⟩,Vp.2 ⟨List.mem_range.1 hj,hb.2⟩,hb.1⟩
  ·rw[if_neg hd,WU _ (fun k hk=>?_)]
   ·unfold YR;rw[hg];rfl
   ·unfold noB;rw[hc k hk];have h4:=Vp.1 hk
    cases hq:Zw (l.get k).m x.m with
    | false=>rfl
    | true =>
     refine absurd ?_ hd;unfold X0;refine List.any_eq_true.2 ⟨k.val,List.mem_range.2 h4.1,?_⟩;rw[List.getElem?_eq_getElem k.isLt];simp only[Bool.and_eq_true,Bool.not_eq_true'];exact⟨hq,h4.2⟩
end Go.Proofs.YtimpddecdodddaaGreat
