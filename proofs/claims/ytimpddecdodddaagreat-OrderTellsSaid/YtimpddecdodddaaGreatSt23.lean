import Derived.Test.YtimpddecdodddaaGreatSt06
import Derived.Test.YtimpddecdodddaaGreatSt22
namespace Go.Proofs.YtimpddecdodddaaGreat
open Go.Proofs.Tryz Go.RowKit Go.Lib
set_option linter.unusedVariables false
set_option maxHeartbeats 8000000
set_option maxRecDepth 1000000
theorem zU {P:Prop} (h:P:=by
 have hx:=Hh.out.keep (HS.out.trans hs);have c0:=hx.cell 0;have c1:=hx.cell 1;have c2:=hx.cell 2;have c3:=hx.cell 3;have c4:=hx.cell 4;have c5:=hx.cell 5;have c6:=hx.cell 6;have c7:=hx.cell 7;have hl:=hx.lt;clear hx;go_wp2
 exact⟨_,rfl,rfl,.refl _⟩):P:=h
theorem qh {P:Prop} (h:P:=by
 subst hb;subst ha;have HX:=hid hx;have HY:=hid hy;clear hx hy;unfold Yp;dsimp only;go_enter func120,ntmps120
 go_wp2
 go_ret
 exact⟨rfl,(((Since.refl _).alloc _).alloc _)⟩):P:=h
theorem qZ {P:Prop} (h:P:=by
 have hb:=ZX (hc.out.keep (HS.out.trans hs)).1;have c0:=hb 0;have hl:=Z9 (hc.out.keep (HS.out.trans hs)).1;clear hb;go_wp2
 exact⟨_,rfl,rfl,.refl _⟩):P:=h
theorem yg {P:Prop} (h:P:=by
 have HC:=hid (Hj.out w8 (HW.out.trans hs));clear hk hs;go_wp2_with fail
 refine HC.out.mono ?_;rintro e w9 ⟨rfl,h2⟩;go_wp2
 exact⟨_,rfl,rfl,h2⟩):P:=h
theorem yH {P:Prop} (h:P:=by
 go_enter func83,ntmps83
 go_wp2
 go_ret
 exact⟨rfl,((Since.refl _).alloc _).alloc _⟩):P:=h
theorem yN {P:Prop} (h:P:=by
 have c0:=hF.out w9 (ha.out.trans hs);have hl:=Z9 (hc.out.keep (ha.out.trans hs)).2.2.1;go_wp2
 exact⟨_,rfl,rfl,.refl _⟩):P:=h
theorem ja {P:Prop} (h:P:=by
 obtain⟨⟨c0,c1,c2,c3,c4,c5,c6,c7⟩,hl⟩:=hV.out w8 (HW.out.trans hs);go_wp2
 exact⟨_,rfl,rfl,.refl _⟩):P:=h
theorem ka {P:Prop} (h:P:=by
 go_wp2
 exact⟨_,(Zz _ 67).symm,trivial,.refl _⟩):P:=h
theorem kd {P:Prop} (h:P:=by
 go_wp2
 exact⟨_,(Zz _ 68).symm,trivial,.refl _⟩):P:=h
theorem ke {P:Prop} (h:P:=by
 go_wp2
 exact⟨_,(Zz _ 69).symm,trivial,.refl _⟩):P:=h
theorem kg {P:Prop} (h:P:=by
 go_wp2
 exact⟨_,(Zz _ 70).symm,trivial,.refl _⟩):P:=h
theorem kh {P:Prop} (h:P:=by
 go_wp2
 exact⟨_,(Zz _ 71).symm,trivial,.refl _⟩):P:=h
theorem ki {P:Prop} (h:P:=by
 go_wp2
 exact⟨_,(Zz _ 72).symm,trivial,.refl _⟩):P:=h
theorem kj {P:Prop} (h:P:=by
 go_wp2
 exact⟨_,(Zz _ 73).symm,trivial,.refl _⟩):P:=h
theorem km {P:Prop} (h:P:=by
 go_wp2
 exact⟨_,(Zz _ 74).symm,trivial,.refl _⟩):P:=h
theorem ko {P:Prop} (h:P:=by
 go_wp2
 exact⟨_,(Zz _ 75).symm,trivial,.refl _⟩):P:=h
theorem ZbM (x y:ZY) (w:World) (hx:Zd w x.tov x.to) (hy:Zd w y.tov y.to) (h0:(x.op==y.op)=false):Calls prog 120 #[Yp x,Yp y] w (ZD false w):=by
 obtain⟨o1,a1,b1,l1,v1,i1⟩:=x;obtain⟨o2,a2,b2,l2,v2,i2⟩:=y;obtain⟨q1,k1,hb⟩:=Zc hx;obtain⟨q2,k2,ha⟩:=Zc hy;dsimp only at hb ha h0;exact qh
theorem ZbL (x y:ZY) (w:World) (hx:Zd w x.tov x.to) (hy:Zd w y.tov y.to) (h0:(x.op==y.op)=true) (h1:(x.a==y.a)=false):Calls prog 120 #[Yp x,Yp y] w (ZD false w):=by
 obtain⟨o1,a1,b1,l1,v1,i1⟩:=x;obtain⟨o2,a2,b2,l2,v2,i2⟩:=y;obtain⟨q1,k1,hb⟩:=Zc hx;obtain⟨q2,k2,ha⟩:=Zc hy;dsimp only at hb ha h0 h1;exact qh
theorem ZbK (x y:ZY) (w:World) (hx:Zd w x.tov x.to) (hy:Zd w y.tov y.to) (h0:(x.op==y.op)=true) (h1:(x.a==y.a)=true) (h2:(x.b==y.b)=false):Calls prog 120 #[Yp x,Yp y] w (ZD false w):=by
 obtain⟨o1,a1,b1,l1,v1,i1⟩:=x;obtain⟨o2,a2,b2,l2,v2,i2⟩:=y;obtain⟨q1,k1,hb⟩:=Zc hx;obtain⟨q2,k2,ha⟩:=Zc hy;dsimp only at hb ha h0 h1 h2;exact qh
theorem ZbJ (x y:ZY) (w:World) (hx:Zd w x.tov x.to) (hy:Zd w y.tov y.to) (h0:(x.op==y.op)=true) (h1:(x.a==y.a)=true) (h2:(x.b==y.b)=true) (h3:(x.imm==y.imm)=false):Calls prog 120 #[Yp x,Yp y] w (ZD false w):=by
 obtain⟨o1,a1,b1,l1,v1,i1⟩:=x;obtain⟨o2,a2,b2,l2,v2,i2⟩:=y;obtain⟨q1,k1,hb⟩:=Zc hx;obtain⟨q2,k2,ha⟩:=Zc hy;dsimp only at hb ha h0 h1 h2 h3;exact qh
theorem ZbI (x y:ZY) (w:World) (hx:Zd w x.tov x.to) (hy:Zd w y.tov y.to) (h0:(x.op==y.op)=true) (h1:(x.a==y.a)=true) (h2:(x.b==y.b)=true) (h3:(x.imm==y.imm)=true):Calls prog 120 #[Yp x,Yp y] w (ZD (numsB x.to y.to) w):=by
 obtain⟨o1,a1,b1,l1,v1,i1⟩:=x;obtain⟨o2,a2,b2,l2,v2,i2⟩:=y;obtain⟨q1,k1,hb⟩:=Zc hx;obtain⟨q2,k2,ha⟩:=Zc hy;dsimp only at hb ha h0 h1 h2 h3;subst hb;subst ha;have HX:=hid hx;have HY:=hid hy;clear hx hy;unfold Yp;dsimp only;go_enter func120,ntmps120
 exact zX
theorem Zav (x y:ZY) (w:World) (hx:Zd w x.tov x.to) (hy:Zd w y.tov y.to):Calls prog 120 #[Yp x,Yp y] w (ZD (YZ x y) w):=by
 unfold YZ
 cases h0:(x.op==y.op) with
 | false=>exact ZbM x y w hx hy h0
 | true =>
  cases h1:(x.a==y.a) with
  | false=>exact ZbL x y w hx hy h0 h1
  | true =>
   cases h2:(x.b==y.b) with
   | false=>exact ZbK x y w hx hy h0 h1 h2
   | true =>
    cases h3:(x.imm==y.imm) with
    | false=>exact ZbJ x y w hx hy h0 h1 h2 h3
    | true =>
     exact ZbI x y w hx hy h0 h1 h2 h3
def Zdh (p q:Zx):Int:=if (YD p q).2 then -1 else ((YD p q).1:Int)
theorem ZbR (p q:Zx) (w:World) (hp:BlkOk w p) (hq:BlkOk w q):Calls prog 83 #[bkv p,bkv q] w (Zfj (Zdh p q) w):=by
 obtain⟨l,lv,pe⟩:=p;obtain⟨m,mv0,qe⟩:=q;obtain⟨hS,hQ,Hu⟩:=hp;obtain⟨hP,hO,Hs⟩:=hq;dsimp only at hS hQ Hu hP hO Hs;obtain⟨la,lc,rfl,h8⟩:=hS.shape;obtain⟨ma,mc,rfl,h5⟩:=hP.shape;obtain⟨po,pa,pb,pt,ptv,pi⟩:=pe;obtain⟨qo,qa,qb,qt,qtv,qi⟩:=qe;obtain⟨pta,ptc,Ht⟩:=Zc hQ;obtain⟨qta,qtc,Hr⟩:=Zc hO;dsimp only at Ht Hr;subst Ht;subst Hr;obtain⟨ptl,hI⟩:∃ x,pt.length=x:=⟨_,rfl⟩
 obtain⟨qtl,hH⟩:∃ x,qt.length=x:=⟨_,rfl⟩
 obtain⟨n,hn⟩:∃ x,l.length=x:=⟨_,rfl⟩
 obtain⟨k0,Ha⟩:∃ x,m.length=x:=⟨_,rfl⟩
 have tf:=hid hS;have td:=hid hQ;have ta:=hid hP;have H9:=hid hO;have HN:=hid hn;have HK:=hid Ha;have tc:=hid hI;have H8:=hid hH;unfold maxLen at h8 h5;unfold bkv Zdh YD;dsimp only;rw[hn]at Hu h8 ⊢;rw[Ha]at Hs h5 ⊢;rw[hI,hH];clear hS hQ hP hO hn Ha hI hH h8 h5;by_cases hl:k0=n
 ·subst hl;rw[if_pos rfl];obtain⟨R,hR⟩:∃ R,Y4 l m (List.replicate k0 false) 0=R:=⟨_,rfl⟩
  obtain⟨SB,He⟩:∃ SB,YZ { op:=po,a:=pa,b:=pb,«to»:=pt,tov:=Value.slice pta ptl ptc,imm:=pi } { op:=qo,a:=qa,b:=qb,«to»:=qt,tov:=Value.slice qta qtl qtc,imm:=qi }=SB:=⟨_,rfl⟩
  rw[hR,He];rw[←HN.out]at hR;have HR:=hid hR;have H6:=hid He;clear hR He;have HQ:((k0:Int) != (k0:Int))=false:=by simp
  have Hb:(prog.info? 4).map (fun i=>(i.zero,i.size,i.bytes))=some (some (.bool false),1,1):=by kernel_rfl
  obtain⟨ti,Ho,hh,hw,Hm⟩:=info_parts Hb;have TI:=hid (And.intro Ho (And.intro hh (And.intro hw Hm)));clear Hb Ho hh hw Hm;obtain⟨RES,hi⟩:∃ z,(if (blkOut k0 SB R).2 then (-1:Int) else ((blkOut k0 SB R).1:Int))=z:=⟨_,rfl⟩
  rw[hi];have hK:=hid hi;clear hi;go_enter func83,ntmps83
  go_upto_region 4 with fail
  go_upto_region 5 with (refine wpList_make_full _ rfl (.tmp 28) (.tmp 28) 144 rfl _ 4 ti (.bool false) 1 underlying144 TI.out.1 TI.out.2.1 TI.out.2.2.1 .i64 .i64 _ _ k0 rfl rfl rfl rfl zak zaq (Nat.le_refl _) ?_;intro w1 h3 hT;have hC:=Zc2 h3 hT;have hE:=hid hC;have H1:=fun i=>hC.1.cell (p:=⟨w.heap.size,i,none⟩) zaE;have H0:=fun i=>hC.1.cell (p:=⟨w.heap.size+1,i,none⟩) zaL;have hw:=hC.1.size;simp only[World.size_alloc]at hw;clear h3 hT hC)
  have HH:=hid (show BSt w #[.slice la k0 lc,.int .i64 po,.int .i64 pa,.int .i64 pb,.slice pta ptl ptc,.int .i32 pi] #[.slice ma k0 mc,.int .i64 qo,.int .i64 qa,.int .i64 qb,.slice qta qtl qtc,.int .i32 qi] (List.replicate k0 false) w1 from
   ⟨(hE.out.1.block _ zaE).trans ((((Since.refl _).alloc _).block _ zaL).trans (ZG _ _)),(hE.out.1.block _ zaL).trans (by have h:=ZG (w.alloc (.cells #[.slice la k0 lc,.int .i64 po,.int .i64 pa,.int .i64 pb,.slice pta ptl ptc,.int .i32 pi] 34)) (.cells #[.slice ma k0 mc,.int .i64 qo,.int .i64 qa,.int .i64 qb,.slice qta qtl qtc,.int .i32 qi] 34);rw[World.size_alloc]at h;exact h),by have h:=hE.out.2;simp only[World.size_alloc]at h;exact h,(((Since.refl w).alloc _).alloc _).trans hE.out.1⟩)
  clear hE H1 H0 hw;go_wp2_with fail
  go_loopw [7] (fun i wr=>∃ (k:Nat) (found:List Bool),k≤k0∧i=.int .i64 k∧BSt w #[.slice la k0 lc,.int .i64 po,.int .i64 pa,.int .i64 pb,.slice pta ptl ptc,.int .i32 pi] #[.slice ma k0 mc,.int .i64 qo,.int .i64 qa,.int .i64 qb,.slice qta qtl qtc,.int .i32 qi] found wr∧found.length=k0∧XJ l m k found) (fun i _=>k0-(intOf i).toNat)
  case atStart=>exact⟨0,_,Nat.zero_le _,rfl,HH.out,by simp,by rw[←HN.out];exact XJ.start l m⟩
  case round =>
   obtain⟨k,found,hk,rfl,he,Hx,Hw⟩:=hrel;have hd:=hid he;have hX:=hid Hx;have hW:=hid Hw;clear Hx Hw HH;by_cases Hv:k<k0
   ·obtain⟨B,off,x,HT,hB,hx,Hz,h4⟩:=RowIn.at ta.out (by rw[HK.out];exact Hv)
    cases HT
    have hf:=fun t ht=>(he.2.2.2.cell (p:=⟨B,off+k*9+t,none⟩) hB).trans (Hz t ht)
    have HX:=hid hx;have H2:B<wr.heap.size:=Nat.lt_of_lt_of_le hB he.2.2.2.size;have h7:w.heap.size+1<wr.heap.size:=Z9 he.2.1;have HO:=ZX he.2.1 0;obtain⟨⟨xo,xd,xe,xa,xb,xc,xi,xr⟩,xv,xs⟩:=x;obtain⟨xva,xvc,hZ⟩:=Zc h4.1;obtain⟨xl,Hn⟩:∃ q,xr.length=q:=⟨_,rfl⟩
    dsimp only at hZ;rw[Hn]at hZ;subst hZ;have HI:=hid h4;have q0:wr.cell? ⟨B,off+k*9,none⟩=some (.int .i64 xo):=hf 0 zaJ;have q1:wr.cell? ⟨B,off+k*9+1,none⟩=some (.int .i64 xd):=hf 1 zaJ;have q2:wr.cell? ⟨B,off+k*9+2,none⟩=some (.int .i64 xe):=hf 2 zaJ;have q3:wr.cell? ⟨B,off+k*9+3,none⟩=some (.int .i64 xa):=hf 3 zaJ;have q4:wr.cell? ⟨B,off+k*9+4,none⟩=some (.int .i64 xb):=hf 4 zaJ;have q5:wr.cell? ⟨B,off+k*9+5,none⟩=some (.int .i64 xc):=hf 5 zaJ;have q6:wr.cell? ⟨B,off+k*9+6,none⟩=some (.int .i32 xi):=hf 6 zaJ;have q7:wr.cell? ⟨B,off+k*9+7,none⟩=some (.slice xva xl xvc):=hf 7 zaJ;have q8:wr.cell? ⟨B,off+k*9+8,none⟩=some (.int .i64 xs):=hf 8 zaJ;clear hf Hz h4 hB hx he Hn;obtain⟨LB,loff,lc2,h6,HB⟩:=QM tf.out zat;rw[HN.out]at h6;obtain⟨rfl,rfl⟩:la=some ⟨LB,loff,none⟩∧lc=lc2:=by cases h6;exact⟨rfl,rfl⟩
    have hv:=hid HB;clear h6 HB;go_wp2_with fail
    obtain⟨xq,h0⟩:∃ z,z=wr.heap.size:=⟨_,rfl⟩
    obtain⟨wx,hL⟩:∃ z,z=wr.alloc (.cells #[.int .i64 xo,.int .i64 xd,.int .i64 xe,.int .i64 xa,.int .i64 xb,.int .i64 xc,.int .i32 xi,.slice xva xl xvc,.int .i64 xs] 38):=⟨_,rfl⟩
    have Hh:=zH (HeapIs wx xq #[.int .i64 xo,.int .i64 xd,.int .i64 xe,.int .i64 xa,.int .i64 xb,.int .i64 xc,.int .i32 xi,.slice xva xl xvc,.int .i64 xs] 38) (by rw[hL,h0];exact HeapIs.new _ _ _);have hc:=zH (BSt w #[.slice (some ⟨LB,loff,none⟩) k0 lc,.int .i64 po,.int .i64 pa,.int .i64 pb,.slice pta ptl ptc,.int .i32 pi] #[.slice (some ⟨B,off,none⟩) k0 mc,.int .i64 qo,.int .i64 qa,.int .i64 qb,.slice qta qtl qtc,.int .i32 qi] found wx) (by rw[hL];exact hd.out.keep ((Since.refl wr).alloc _))
    rw[←hL,←h0];clear hL h0 q0 q1 q2 q3 q4 q5 q6 q7 q8 H2 h7 HO hd;have Hg:=hid (fun (w9:World) (s9:Since w w9)=>(show Zd w9 (.slice xva xl xvc) xr from HI.out.1.keep s9))
    obtain⟨XP,HD⟩:∃ z:PlV,z=⟨⟨xo,xd,xe,xa,xb,xc,xi,xr⟩,.slice xva xl xvc,xs⟩:=⟨_,rfl⟩
    have hg:=hid HD;clear HD
    go_loopw [9,10] (fun av kv wr=>∃ j:Nat,j≤k0∧kv=.int .i64 j∧av=.int .i64 (Yr l found XP j)∧Since wx wr) (fun _ kv _=>k0-(intOf kv).toNat)
    case atStart=>exact⟨0,Nat.zero_le _,rfl,rfl,.refl _⟩
    case round =>
     obtain⟨j,hj,rfl,rfl,hs⟩:=hrel;have HS:=hid hs;clear hs;have Hl:=Kk l found XP j;obtain⟨z,hz⟩:∃ z,Yr l found XP j=z:=⟨_,rfl⟩
     rw[hz]at Hl ⊢;have HZ:=hid hz;clear hz;by_cases hD:j<k0
     ·obtain⟨y,hy⟩:∃ y,l[j]? = some y:=⟨_,List.getElem?_eq_getElem (by rw[HN.out];exact hD)⟩
      have hV:=hid (fun (w9:World) (s9:Since w w9)=>(hv.out j y hy).1.1.keep s9)
      have H3:=hid (fun (w9:World) (s9:Since w w9)=>(s9.cell (p:=⟨LB,loff+j*9+8,none⟩) (hv.out j y hy).1.1.2).trans (hv.out j y hy).1.2)
      have hU:=hid (hv.out j y hy).2;have HY:=hid hy;clear hy;have HW:=zH (Since w wr) (hc.out.2.2.2.trans HS.out);obtain⟨fj,hr⟩:∃ b,found[j]? = some b:=⟨_,List.getElem?_eq_getElem (by rw[hX.out];exact hD)⟩
      have hu:=zH (found.getD j true=fj) (by rw[List.getD_eq_getElem?_getD,hr];rfl);have hF:=hid (fun (w9:World) (s9:Since wx w9)=>show w9.cell? ⟨w.heap.size+2,j,none⟩=some (.bool fj) from by
       have h9:=ZX (hc.out.keep s9).2.2.1 j;rw[List.getElem?_toArray,List.getElem?_map,hr]at h9;exact h9)
      clear hr;have Hj:=hid (fun (w9:World) (s9:Since w w9)=>show Calls prog 119 #[mv y.m y.av,mv ⟨xo,xd,xe,xa,xb,xc,xi,xr⟩ (.slice xva xl xvc)] w9 (ZD (Xu y.m ⟨xo,xd,xe,xa,xb,xc,xi,xr⟩) w9) from ZbH y.m ⟨xo,xd,xe,xa,xb,xc,xi,xr⟩ y.av (.slice xva xl xvc) w9 (hU.out.1.keep s9) (Hg.out w9 s9))
      go_wp2_with fail
      refine Zh 9 rfl zaC zaC zaC zaJ
       [Is (.pointer (some ⟨w.heap.size,0,none⟩)),Is (.slice (some ⟨LB,loff,none⟩) k0 lc),Is (.int .i64 j),Is (.pointer (some ⟨LB,loff+j*9,none⟩)),Is (.pointer (some ⟨LB,loff+j*9,none⟩)),Is (mv y.m y.av),Is (.pointer (some ⟨xq,0,none⟩)),Is (mv ⟨xo,xd,xe,xa,xb,xc,xi,xr⟩ (.slice xva xl xvc)),Is (.bool (Xu y.m ⟨xo,xd,xe,xa,xb,xc,xi,xr⟩))]
       kT ⟨?_,?_,?_,?_,?_,?_,?_,?_,?_,trivial⟩ ?_
      all_goals
       intro vs w8 hs hk;try intro _
       revert hk;refine zs5 ?_;intro hk
      ·exact kH
      ·exact qZ
      iterate 3
       ·exact kH
      ·exact ja
      ·exact kH
      ·exact zU
      ·exact yg
      ·have ha:=hid (HS.out.trans hs);clear hk hs;obtain⟨sm,h1⟩:∃ b,Xu y.m ⟨xo,xd,xe,xa,xb,xc,xi,xr⟩=b:=⟨_,rfl⟩
       rw[h1];have hJ:=hid h1;clear h1;go_upto_region 14 with fail
       by_cases hh:z<0
       ·cases fj
        ·cases sm
         ·refine Zu rfl zaC zaC
           [Is (.int .i64 z),Is (.bool true),Is (.bool true),Is (.slice (some ⟨w.heap.size+1+1,0,none⟩) k0 k0),Is (.int .i64 j),Is (.pointer (some ⟨w.heap.size+1+1,j,none⟩)),Is (.bool false),Is (.bool true),Is (.bool true),Is (.bool true),Is (.bool false),Is (.bool false),Is (.bool false),Any,Any,Any,Any,Any,Any,Any,Any,Any,Is (.bool false)]
           kT ⟨?_,?_,?_,?_,?_,?_,?_,?_,?_,?_,?_,?_,?_,?_,?_,?_,?_,?_,?_,?_,?_,?_,?_,trivial⟩ ?_
          all_goals
           intro vs w9 hs hk;revert hk;refine zs3 ?_;intro hk
          iterate 6
           ·exact kH
          ·exact yN
          iterate 6
           ·exact kH
          ·exact ka
          ·exact kd
          ·exact ke
          ·exact kg
          ·exact kh
          ·exact ki
          ·exact kj
          ·exact km
          ·exact ko
          ·exact kH
          ·have hm:=hid (ha.out.trans hs);clear hk hs;go_wp2_with fail
           go_roundw
           case rel=>exact⟨j+1,zaK,by go_num,by rw[Kj (by rw[JP HY.out,hu.out,hg.out,hJ.out];rfl),HZ.out],hm.out⟩
           case measure=>simp[intOf];omega
         ·refine Zu rfl zaC zaC
           [Is (.int .i64 z),Is (.bool true),Is (.bool true),Is (.slice (some ⟨w.heap.size+1+1,0,none⟩) k0 k0),Is (.int .i64 j),Is (.pointer (some ⟨w.heap.size+1+1,j,none⟩)),Is (.bool false),Is (.bool true),Is (.bool true),Is (.bool true),Is (.bool true),Is (.bool true),Is (.bool true),Is (.pointer (some ⟨w.heap.size,0,none⟩)),Is (.slice (some ⟨LB,loff,none⟩) k0 lc),Is (.int .i64 j),Is (.pointer (some ⟨LB,loff+j*9,none⟩)),Is (.pointer (some ⟨LB,loff+j*9+8,none⟩)),Is (.int .i64 y.src),Is (.pointer (some ⟨xq,8,none⟩)),Is (.int .i64 xs),Is (.bool (y.src==xs)),Is (.bool (y.src==xs))]
           kT ⟨?_,?_,?_,?_,?_,?_,?_,?_,?_,?_,?_,?_,?_,?_,?_,?_,?_,?_,?_,?_,?_,?_,?_,trivial⟩ ?_
          all_goals
           intro vs w9 hs hk;revert hk;refine zs3 ?_;intro hk
          iterate 6
           ·exact kH
          ·exact yN
          iterate 7
           ·exact kH
          ·have hb:=ZX (hc.out.keep (ha.out.trans hs)).1;have c0:=hb 0;have hl:=Z9 (hc.out.keep (ha.out.trans hs)).1;clear hb;exact kH
          iterate 3
           ·exact kH
          ·have c0:=H3.out w9 (hc.out.2.2.2.trans (ha.out.trans hs));have hl:=(hV.out w9 (hc.out.2.2.2.trans (ha.out.trans hs))).2;exact kH
          ·exact kH
          ·have hx:=Hh.out.keep (ha.out.trans hs);have c0:=hx.cell 8;have hl:=hx.lt;clear hx;exact kH
          iterate 2
           ·exact kH
          ·have hm:=hid (ha.out.trans hs);clear hk hs
           cases hN:(y.src==xs)
           ·have Hi:=hid hN;clear hN;go_wp2_with fail
            go_roundw
            case rel=>exact⟨j+1,zaK,by go_num,by rw[Kj (by rw[JP HY.out,hu.out,hg.out,hJ.out];dsimp only;rw[Hi.out];rfl),HZ.out],hm.out⟩
            case measure=>simp[intOf];omega
           ·have Hi:=hid hN;clear hN;go_wp2_with fail
            go_roundw
            case rel=>exact⟨j+1,zaK,by go_num,by rw[Zda (by rw[HZ.out];exact hh) (by rw[JP HY.out,hu.out,hg.out,hJ.out];dsimp only;rw[Hi.out];rfl)],hm.out⟩
            case measure=>simp[intOf];omega
        ·refine Zu rfl zaC zaC
          [Is (.int .i64 z),Is (.bool true),Is (.bool true),Is (.slice (some ⟨w.heap.size+1+1,0,none⟩) k0 k0),Is (.int .i64 j),Is (.pointer (some ⟨w.heap.size+1+1,j,none⟩)),Is (.bool true),Is (.bool false),Is (.bool false),Is (.bool false),Any,Is (.bool false),Is (.bool false),Any,Any,Any,Any,Any,Any,Any,Any,Any,Is (.bool false)]
          kT ⟨?_,?_,?_,?_,?_,?_,?_,?_,?_,?_,?_,?_,?_,?_,?_,?_,?_,?_,?_,?_,?_,?_,?_,trivial⟩ ?_
         all_goals
          intro vs w9 hs hk;revert hk;refine zs3 ?_;intro hk
         iterate 6
          ·exact kH
         ·exact yN
         iterate 3
          ·exact kH
         ·go_wp2
          exact⟨_,(Zz _ 64).symm,trivial,.refl _⟩
         iterate 2
          ·exact kH
         ·exact ka
         ·exact kd
         ·exact ke
         ·exact kg
         ·exact kh
         ·exact ki
         ·exact kj
         ·exact km
         ·exact ko
         ·exact kH
         ·have hm:=hid (ha.out.trans hs);clear hk hs;go_wp2_with fail
          go_roundw
          case rel=>exact⟨j+1,zaK,by go_num,by rw[Kj (by rw[JP HY.out,hu.out];rfl),HZ.out],hm.out⟩
          case measure=>simp[intOf];omega
       ·refine Zu rfl zaC zaC
         [Is (.int .i64 z),Is (.bool false),Is (.bool false),Any,Any,Any,Any,Any,Is (.bool false),Is (.bool false),Any,Is (.bool false),Is (.bool false),Any,Any,Any,Any,Any,Any,Any,Any,Any,Is (.bool false)]
         kT ⟨?_,?_,?_,?_,?_,?_,?_,?_,?_,?_,?_,?_,?_,?_,?_,?_,?_,?_,?_,?_,?_,?_,?_,trivial⟩ ?_
        all_goals
         intro vs w9 hs hk;revert hk;refine zs3 ?_;intro hk
        iterate 3
         ·exact kH
        ·go_wp2
         exact⟨_,(Zz _ 57).symm,trivial,.refl _⟩
        ·go_wp2
         exact⟨_,(Zz _ 58).symm,trivial,.refl _⟩
        ·go_wp2
         exact⟨_,(Zz _ 59).symm,trivial,.refl _⟩
        ·go_wp2
         exact⟨_,(Zz _ 60).symm,trivial,.refl _⟩
        ·go_wp2
         exact⟨_,(Zz _ 61).symm,trivial,.refl _⟩
        iterate 2
         ·exact kH
        ·go_wp2
         exact⟨_,(Zz _ 64).symm,trivial,.refl _⟩
        iterate 2
         ·exact kH
        ·exact ka
        ·exact kd
        ·exact ke
        ·exact kg
        ·exact kh
        ·exact ki
        ·exact kj
        ·exact km
        ·exact ko
        ·exact kH
        ·have hm:=hid (ha.out.trans hs);clear hk hs;go_wp2_with fail
         go_roundw
         case rel=>exact⟨j+1,zaK,by go_num,by rw[Zc9 (by rw[HZ.out];exact hh),HZ.out],hm.out⟩
         case measure=>simp[intOf];omega
     ·obtain rfl:k0=j:=zaK
      have Hf:=hid (ZdZ l found XP);have HW:=zH (Since w wr) (hc.out.2.2.2.trans HS.out);obtain⟨rh,Hq⟩:∃ r,findI l found XP=r:=⟨_,rfl⟩
      have tl:=hid Hq;clear Hq;by_cases hh:z<0
      ·have HF:=hid (hW.out.bad HX.out (by rw[←hg.out,Hf.out,HN.out,HZ.out,if_pos hh];decide));go_wp2_with fail
       go_ret
       exact⟨by rw[←hK.out,←HR.out,HF.out];rfl,HW.out⟩
      ·obtain⟨t,rfl⟩:∃ t:Nat,z=t:=⟨z.toNat,zaK⟩
       have HP:t<k0:=zaK
       have HE:=hid hh;have tg:=hid (fun (h:X0 l found XP t=true)=>show findI l found XP<0 from by rw[Hf.out,HN.out,HZ.out,if_neg HE.out,Int.toNat_natCast,if_pos h];decide)
       have HJ:=hid (fun (h:X0 l found XP t=false)=>show findI l found XP=(t:Int) from by rw[Hf.out,HN.out,HZ.out,if_neg HE.out,Int.toNat_natCast,if_neg (by rw[h];decide)])
       clear Hl hD hj;go_wp2_with fail
       clear hh
       go_loopw [12] (fun kv wr=>∃ j:Nat,j≤t∧kv=.int .i64 j∧X0 l found XP j=false∧Since wx wr) (fun kv _=>t-(intOf kv).toNat)
       case atStart=>exact⟨0,Nat.zero_le _,rfl,rfl,HS.out⟩
       case round =>
        clear HS HW;obtain⟨j,hj,rfl,Hy,hs⟩:=hrel;have HS:=hid hs;have hG:=hid Hy;clear hs Hy;have HW:=zH (Since w wr) (hc.out.2.2.2.trans HS.out);by_cases hD:j<t
        ·obtain⟨y,hy⟩:∃ y,l[j]? = some y:=⟨_,List.getElem?_eq_getElem zat⟩
         have hV:=hid (fun (w9:World) (s9:Since w w9)=>(hv.out j y hy).1.1.keep s9)
         have hU:=hid (hv.out j y hy).2;have HY:=hid hy;clear hy;obtain⟨fj,hr⟩:∃ b,found[j]? = some b:=⟨_,List.getElem?_eq_getElem (by rw[hX.out];omega)⟩
         have hu:=zH (found.getD j true=fj) (by rw[List.getD_eq_getElem?_getD,hr];rfl);have hF:=hid (fun (w9:World) (s9:Since wx w9)=>show w9.cell? ⟨w.heap.size+2,j,none⟩=some (.bool fj) from by
          have h9:=ZX (hc.out.keep s9).2.2.1 j;rw[List.getElem?_toArray,List.getElem?_map,hr]at h9;exact h9)
         clear hr;have Hj:=hid (fun (w9:World) (s9:Since w w9)=>show Calls prog 82 #[mv y.m y.av,mv ⟨xo,xd,xe,xa,xb,xc,xi,xr⟩ (.slice xva xl xvc)] w9 (ZD (Zw y.m ⟨xo,xd,xe,xa,xb,xc,xi,xr⟩) w9) from by rw[KY];exact Jh y.m ⟨xo,xd,xe,xa,xb,xc,xi,xr⟩ y.av (.slice xva xl xvc) w9 (hU.out.1.keep s9) (Hg.out w9 s9) hU.out.2.1 HI.out.2.1)
         go_wp2_with fail
         refine Zh 9 rfl zaC zaC zaC zaJ
          [Is (.pointer (some ⟨w.heap.size,0,none⟩)),Is (.slice (some ⟨LB,loff,none⟩) k0 lc),Is (.int .i64 j),Is (.pointer (some ⟨LB,loff+j*9,none⟩)),Is (.pointer (some ⟨LB,loff+j*9,none⟩)),Is (mv y.m y.av),Is (.pointer (some ⟨xq,0,none⟩)),Is (mv ⟨xo,xd,xe,xa,xb,xc,xi,xr⟩ (.slice xva xl xvc)),Is (.bool (Zw y.m ⟨xo,xd,xe,xa,xb,xc,xi,xr⟩))]
          kT ⟨?_,?_,?_,?_,?_,?_,?_,?_,?_,trivial⟩ ?_
         all_goals
          intro vs w8 hs hk;try intro _
          revert hk;refine zs5 ?_;intro hk
         ·exact kH
         ·exact qZ
         iterate 3
          ·exact kH
         ·exact ja
         ·exact kH
         ·exact zU
         ·exact yg
         ·have ha:=hid (HS.out.trans hs);clear hk hs;obtain⟨dp,Hc⟩:∃ b,Zw y.m ⟨xo,xd,xe,xa,xb,xc,xi,xr⟩=b:=⟨_,rfl⟩
          rw[Hc];have Hk:=hid Hc;clear Hc;have HV:=hF.out w8 ha.out;have HM:=Z9 (hc.out.keep ha.out).2.2.1
          cases dp
          ·go_wp2_with fail
           go_roundw
           case rel=>exact⟨j+1,zaK,by go_num,by rw[V0 HY.out,hG.out,hg.out,Hk.out];rfl,ha.out⟩
           case measure=>simp[intOf];omega
          ·cases fj
           ·have HF:=hid (hW.out.bad HX.out (by rw[←hg.out];exact tg.out (Zcb (k:=j+1) (by rw[V0 HY.out,hG.out,hg.out,Hk.out,hu.out];rfl) zaK)))
            go_wp2_with fail
            go_ret
            exact⟨by rw[←hK.out,←HR.out,HF.out];rfl,hc.out.2.2.2.trans ha.out⟩
           ·go_wp2_with fail
            go_roundw
            case rel=>exact⟨j+1,zaK,by go_num,by rw[V0 HY.out,hG.out,hg.out,Hk.out,hu.out];rfl,ha.out⟩
            case measure=>simp[intOf];omega
        ·obtain rfl:t=j:=zaK
         have HG:=hid (hW.out.next HX.out (by rw[←hg.out,HJ.out hG.out];omega));have hY:=hid (hc.out.keep HS.out);obtain⟨bt,HA⟩:∃ b,found[t]? = some b:=⟨_,List.getElem?_eq_getElem (by rw[hX.out];exact HP)⟩
         have HV:wr.cell? ⟨w.heap.size+2,t,none⟩=some (.bool bt):=by
          have h9:=ZX hY.out.2.2.1 t;rw[List.getElem?_toArray,List.getElem?_map,HA]at h9;exact h9
         have HM:=Z9 hY.out.2.2.1;have tj:wr.frozen? ⟨w.heap.size+2,t,none⟩=false:=QZ hY.out.2.2.1 t;clear HA hj hD;go_wp2_with fail
         go_roundw
         case rel=>exact⟨k+1,_,zaK,by go_num,hY.out.set t,by rw[List.length_set];exact hX.out,by have h:=HG.out;rw[←hg.out,HJ.out hG.out]at h;exact h⟩
         case measure=>simp[intOf];omega
   ·obtain rfl:k0=k:=zaK
    have HF:=zH (Y4 l m (List.replicate l.length false) 0=none) (XJ.done (by rw[HK.out];exact hW.out));have ho:=hd.out.1;have c0:=ZX ho 0;have c1:=ZX ho 1;have c2:=ZX ho 2;have c3:=ZX ho 3;have c4:=ZX ho 4;have c5:=ZX ho 5;have d1:=ZX hd.out.2.1 1;have d2:=ZX hd.out.2.1 2;have d3:=ZX hd.out.2.1 3;have d4:=ZX hd.out.2.1 4;have d5:=ZX hd.out.2.1 5;have h7:w.heap.size<wr.heap.size:=Z9 he.1;have HL:w.heap.size+1<wr.heap.size:=Z9 he.2.1;have hM:=he.2.2.2;have H4:=hid hM;have hA:=Zav { op:=po,a:=pa,b:=pb,«to»:=pt,tov:=Value.slice pta pt.length ptc,imm:=pi } { op:=qo,a:=qa,b:=qb,«to»:=qt,tov:=Value.slice qta qt.length qtc,imm:=qi } wr (td.out.keep hM) (H9.out.keep hM);unfold Yp at hA;dsimp only at hA;rw[tc.out,H8.out,H6.out]at hA;have H5:=hid hA;clear hA he hM Hv hk ho c0;go_wp2_with fail
    refine H5.out.mono ?_;rintro e w2 ⟨rfl,Hp⟩;have H7:=hid (H4.out.trans Hp);clear Hp c1 c2 c3 c4 c5 d1 d2 d3 d4 d5 h7 HL
    cases SB
    iterate 2
     ·go_wp2_with fail
      go_ret
      exact⟨by rw[←hK.out,←HR.out,HF.out];rfl,H7.out⟩
 ·rw[if_neg hl];have HQ:((k0:Int) != (n:Int))=true:=by simp;omega
  have hi:((if (min n k0,false).2=true then (-1:Int) else (((min n k0,false):Nat × Bool).1:Int)))=((min n k0:Nat):Int):=rfl;rw[hi];clear hi;by_cases HU:n≤k0
  ·rw[Nat.min_eq_left HU];exact yH
  ·rw[Nat.min_eq_right zaK];have th:k0<n:=zaK
   exact yH
end Go.Proofs.YtimpddecdodddaaGreat
