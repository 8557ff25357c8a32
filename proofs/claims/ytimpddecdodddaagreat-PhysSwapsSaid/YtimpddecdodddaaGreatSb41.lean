import Derived.Test.YtimpddecdodddaaGreatSb40
namespace Go.Proofs.YtimpddecdodddaaGreat
open Go.RowKit Go.Lib
set_option linter.unusedVariables false
set_option maxHeartbeats 8000000
set_option maxRecDepth 1000000
theorem zp {P:Prop} (h:P:=by
 obtain⟨ha,tq⟩:=H0.out w5 hs;clear hk;have g0:=ha 0 (by decide);have g1:=ha 1 (by decide);have g2:=ha 2 (by decide);have g3:=ha 3 (by decide);have g4:=ha 4 (by decide);have g5:=ha 5 (by decide);have g6:=ha 6 (by decide);have g7:=ha 7 (by decide)
 replace g0:w5.cell? ⟨IB,ioff+i*8,none⟩=some (.int .i64 xm.op):=g0
 replace g1:w5.cell? ⟨IB,ioff+i*8+1,none⟩=some (.int .i64 xm.d):=g1
 replace g2:w5.cell? ⟨IB,ioff+i*8+2,none⟩=some (.int .i64 xm.e):=g2
 replace g3:w5.cell? ⟨IB,ioff+i*8+3,none⟩=some (.int .i64 xm.a):=g3
 replace g4:w5.cell? ⟨IB,ioff+i*8+4,none⟩=some (.int .i64 xm.b):=g4
 replace g5:w5.cell? ⟨IB,ioff+i*8+5,none⟩=some (.int .i64 xm.c):=g5
 replace g6:w5.cell? ⟨IB,ioff+i*8+6,none⟩=some (.int .i32 xm.imm):=g6
 replace g7:w5.cell? ⟨IB,ioff+i*8+7,none⟩=some xav:=g7
 clear ha;unfold mv;go_wp2
 exact⟨_,rfl,rfl,.refl _⟩):P:=h
theorem zy {P:Prop} (h:P:=by
 have HR:=hid hr;clear hr;go_wp2_with fail
 obtain⟨t3,hh⟩:∃ z,z=(if t<r+1 then r+1 else t):=⟨_,rfl⟩
 rw[←hh];have Hp:t≤t3∧r+1≤t3∧t3≤10000:=by rw[hh];split<;>omega
 clear hh
 go_roundw
 case rel=>exact⟨t3,k+1,by trivial,by go_num,by omega,⟨by omega,by omega⟩,(fun j r2 hj h2=>by
  by_cases e:j=k
  ·subst e;rw[HR.out]at h2;cases h2;omega
  ·have:=hD.out j r2 (by omega) h2;omega),by trivial⟩
 case measure=>simp[intOf];omega):P:=h
theorem qG {P:Prop} (h:P:=by
 have hm:HeapIs w5 nb #[_,_,_,_,_,_,_] 135:=Hx.out.keep hs;have hc:=hm.cell 1;have hl:=hm.lt;clear hm;go_wp2
 exact⟨_,rfl,rfl,.refl _⟩):P:=h
theorem qI {P:Prop} (h:P:=by
 go_wp2_with fail
 exact HQ.out _ _ v xs (ZI rfl rfl (Za rfl (Za rfl (Za rfl (Za rfl (Za rfl (Za rfl (Za rfl (Zh _))))))))) (hh.out.more (by omega))):P:=h
theorem jU {P:Prop} (h:P:=by repeat (first | exact trivial | refine⟨Is.stable _,?_⟩ | refine⟨GoodRow.stable _ _ _,?_⟩)):P:=h
structure BBelow (t:Int) (b:ZC):Prop where
 dst:∀ p∈b.phis,p.dst<t
 val:∀ p∈b.phis,∀ y∈p.ins,y.2<t
 ins:∀ x∈b.ins,∀ r∈takes7 x.m++makes7 x.m,r<t
 need:∀ r∈needs b.fin,r<t
theorem QY {n : Nat} {e : Yb} (h:Vc n e):(∀ r∈needs e,0≤r∧r<10000)∧(needs e).length≤2:=by
 have ho:=h.op;have ha:=h.a;have hb:=h.b;unfold needs;split
 ·refine⟨fun r hr=>?_,by simp⟩;rw[List.mem_singleton]at hr;subst hr
  rename_i hc
  omega
 ·split
  ·refine⟨fun r hr=>?_,by simp⟩;simp only[List.mem_cons,List.not_mem_nil,or_false]at hr
   rename_i hc
   rcases hr with rfl|rfl
   ·omega
   ·omega
  ·exact⟨fun r hr=>(by cases hr),by simp⟩
theorem BBelow.mono {t t':Int} {b : ZC} (h:BBelow t b) (ht:t≤t'):BBelow t' b:=
 ⟨fun p hp=>by have:=h.dst p hp;omega,fun p hp y hy=>by have:=h.val p hp y hy;omega,fun x hx r hr=>by have:=h.ins x hx r hr;omega,fun r hr=>by have:=h.need r hr;omega⟩
theorem Zbs (g:Vb) (w:World) (h:Vo w g) (hg:QH g) :
  Calls Tryz.prog 78 #[mfv g] w (fun e w'=>∃ t:Int,e=.returned (.int .i64 t)∧(g.params≤t∧t≤10000)∧(∀ b∈g.blocks,BBelow t b)∧Since w w'):=by
 obtain⟨params,bs,bv⟩:=g;obtain⟨n,hE⟩:∃ n,bs.length=n:=⟨_,rfl⟩
 have tZ:1≤n∧n≤9:=by rw[←hE];exact hg.blocks
 obtain⟨BB,boff,bc,rfl⟩:∃ BB boff bc,bv=.slice (some ⟨BB,boff,none⟩) n bc:=by
  rcases (show RowIn mbcells 7 MBlkIn w bv bs from h) with ⟨a,_,h2⟩|⟨B,off,cap,h1,_⟩
  ·rw[h2]at hE;simp at hE;omega
  ·exact⟨B,off,cap,by rw[h1,hE]⟩
 have tW:0≤params∧params≤4:=hg.params;have HG:=hid hg;have tK:=zH (RowIn mbcells 7 MBlkIn w (.slice (some ⟨BB,boff,none⟩) n bc) bs) h;have Hw:=hid hE;clear h hg hE;unfold mfv;dsimp only;go_enter Tryz.func78,Tryz.ntmps78
 go_upto_region 3 with fail
 obtain⟨xb,Hf⟩:∃ z,z=w.heap.size:=⟨_,rfl⟩
 obtain⟨w1,hO⟩:∃ z,z=w.alloc (.cells #[.int .i64 params,.slice (some ⟨BB,boff,none⟩) n bc] 101):=⟨_,rfl⟩
 have tG:=zH (HeapIs w1 xb #[.int .i64 params,.slice (some ⟨BB,boff,none⟩) n bc] 101) (by rw[hO,Hf];exact HeapIs.new _ _ _);have HU:=zH (Since w w1) (by rw[hO];exact (Since.refl w).alloc _)
 rw[←hO,←Hf];clear hO Hf
 go_loopw [3,4] (fun tv bv wr=>∃ (t:Int) (b:Nat),tv=.int .i64 t∧bv=.int .i64 b∧b≤n∧(params≤t∧t≤10000)∧(∀ (j:Nat) (x:ZC),j<b→bs[j]? = some x→BBelow t x)∧Since w1 wr) (fun _ bv _=>n-(intOf bv).toNat)
 case atStart=>exact⟨params,0,rfl,rfl,Nat.zero_le _,⟨Int.le_refl _,kT⟩,(fun j x hj=>by omega),.refl _⟩
 case round =>
  obtain⟨t1,b,rfl,rfl,hb,HE,hY,Hj⟩:=hrel;obtain⟨wB,te⟩:∃ z,z=wr:=⟨_,rfl⟩
  subst te;have Hb:=hid hY;have Ht:=hid Hj;have hm:=tG.out.keep Hj;have td:=hm.cell 1;have H9:=hm.lt;clear hY Hj hm;by_cases tp:b<n
  ·obtain⟨B1,o1,y,he,hB,hy,ho,hA⟩:=RowIn.at (RowIn.keep MBlkIn.keep tK.out (HU.out.trans Ht.out)) (show b<bs.length by rw[Hw.out];exact tp)
   cases he
   have Hc:=List.mem_of_getElem? hy;have hw:=HG.out.each y Hc;rw[show (⟨params,bs,.slice (some ⟨BB,boff,none⟩) n bc⟩:Vb).blocks.length=n from Hw.out]at hw;have hG:=hid hw;have HY:=hid hy;obtain⟨phs,phv,ins,insv,⟨eop,ea,eb,eto,etov,eimm⟩⟩:=y;have hM:=hid hA;have tC:wB.cell? ⟨BB,boff+b*7,none⟩=some phv:=ho 0 kS;have tB:wB.cell? ⟨BB,boff+b*7+1,none⟩=some insv:=ho 1 kS;have tA:wB.cell? ⟨BB,boff+b*7+2,none⟩=some (.int .i64 eop):=ho 2 kS;have tz:wB.cell? ⟨BB,boff+b*7+3,none⟩=some (.int .i64 ea):=ho 3 kS;have tx:wB.cell? ⟨BB,boff+b*7+4,none⟩=some (.int .i64 eb):=ho 4 kS;have tw:wB.cell? ⟨BB,boff+b*7+5,none⟩=some etov:=ho 5 kS;have tu:wB.cell? ⟨BB,boff+b*7+6,none⟩=some (.int .i32 eimm):=ho 6 kS;obtain⟨pa,pc,HJ,_⟩:=RowIn.shape (show RowIn fpcells 2 YD wB phv phs from hA.1);obtain⟨ia,ic,HM,_⟩:=RowIn.shape (show RowIn Z9 8 WH wB insv ins from hA.2.1)
   obtain⟨ta,tc,HB⟩:=Zb hA.2.2;obtain⟨pl,hR⟩:∃ z,phs.length=z:=⟨_,rfl⟩
   obtain⟨il,hU⟩:∃ z,ins.length=z:=⟨_,rfl⟩
   dsimp only at HB;rw[hR]at HJ;rw[hU]at HM;subst HJ HM HB;have Hu:=hid hR;have HZ:=hid hU;have tP:pl≤3:=by rw[←hR];exact hw.few
   have tT:il≤3600:=by rw[←hU];exact Nat.le_trans (Xs (List.mem_map.2 ⟨_,Hc,rfl⟩)) HG.out.total
   clear hy ho hA Hc hw hR hU;go_upto_region 6 with fail
   obtain⟨nb,Hl⟩:∃ z,z=wB.heap.size:=⟨_,rfl⟩
   obtain⟨w3,hN⟩:∃ z,z=wB.alloc (.cells #[.slice pa pl pc,.slice ia il ic,.int .i64 eop,.int .i64 ea,.int .i64 eb,.slice ta eto.length tc,.int .i32 eimm] 135):=⟨_,rfl⟩
   have h5:=zH (HeapIs w3 nb #[.slice pa pl pc,.slice ia il ic,.int .i64 eop,.int .i64 ea,.int .i64 eb,.slice ta eto.length tc,.int .i32 eimm] 135) (by rw[hN,Hl];exact HeapIs.new _ _ _);have Tb:=zH (Since w3 w3) (Since.refl _);have Hr:=zH (Since wB w3) (by rw[hN];exact (Since.refl _).alloc _)
   rw[←hN,←Hl];have H6:=hid (RowIn.keep YD.keep (show RowIn fpcells 2 YD wB (.slice pa pl pc) phs from hM.out.1) Hr.out)
   have H8:=hid (RowIn.keep WH.keep (show RowIn Z9 8 WH wB (.slice ia il ic) ins from hM.out.2.1) Hr.out)
   clear hN Hl tC tB tA tz tx tw tu td H9;have tn:=h5.out.cell 0;have Hk:=h5.out.lt;go_wp2_with fail
   go_loopw [3,6] (fun tv iv wx=>∃ (t:Int) (i:Nat),tv=.int .i64 t∧iv=.int .i64 i∧i≤pl∧(t1≤t∧t≤10000)∧(∀ (j:Nat) (p:YY),j<i→phs[j]? = some p→p.dst<t∧∀ y∈p.ins,y.2<t)∧wx=w3) (fun _ iv _=>pl-(intOf iv).toNat)
   case atStart=>exact⟨t1,0,rfl,rfl,Nat.zero_le _,⟨Int.le_refl _,HE.2⟩,(fun j p hj=>by omega),rfl⟩
   case round =>
    obtain⟨t2,i,rfl,rfl,hi,Hh,hX,hf⟩:=hrel;have e9:=hf.symm;clear hf;subst e9;have hH:=hid hX;clear hX;by_cases ts:i<pl
    ·obtain⟨PB,poff,p,rfl,Ta,hp,Ho,hL⟩:=RowIn.at H6.out (by rw[Hu.out];exact ts);have hS:=hG.out.phis p (List.mem_of_getElem? hp);obtain⟨pd,pin,piv⟩:=p;obtain⟨qa,qc,HI,_⟩:=RowIn.shape (show RowIn prcells 2 (fun _ _=>True) w3 piv pin from hL)
     obtain⟨ql,hQ⟩:∃ z,pin.length=z:=⟨_,rfl⟩
     rw[hQ]at HI;subst HI;have H5:=zH (RowIn prcells 2 (fun _ _=>True) w3 (.slice qa ql qc) pin) hL;have HV:=hid hQ;have HP:=hid hp;have tJ:=hid hS;have tY:w3.cell? ⟨PB,poff+i*2,none⟩=some (.int .i64 pd):=Ho 0 kS;have tX:w3.cell? ⟨PB,poff+i*2+1,none⟩=some (.slice qa ql qc):=Ho 1 kS;have tQ:0≤pd∧pd<700:=hS.1;have tO:ql≤9:=by rw[←hQ];exact hS.2.1
     clear hp hS Ho hL hQ;go_upto_region 10 with fail
     obtain⟨t3,hh⟩:∃ z,z=(if t2<pd+1 then pd+1 else t2):=⟨_,rfl⟩
     rw[←hh];have Hp:t2≤t3∧pd+1≤t3∧t3≤10000:=by rw[hh];split<;>omega
     clear hh;go_wp2_with fail
     go_loopw [3,7] (fun tv iv wx=>∃ (t:Int) (k:Nat),tv=.int .i64 t∧iv=.int .i64 k∧k≤ql∧(t3≤t∧t≤10000)∧(∀ (j:Nat) (y:Int × Int),j<k→pin[j]? = some y→y.2<t)∧wx=w3) (fun _ iv _=>ql-(intOf iv).toNat)
     case atStart=>exact⟨t3,0,rfl,rfl,Nat.zero_le _,⟨Int.le_refl _,Hp.2.2⟩,(fun j y hj=>by omega),rfl⟩
     case round =>
      obtain⟨t4,k,rfl,rfl,hk,tU,hV,hf⟩:=hrel;have e9:=hf.symm;clear hf;subst e9;have h6:=hid hV;clear hV;by_cases tr:k<ql
      ·obtain⟨QB,qoff,y,rfl,t9,hy,HQ,_⟩:=RowIn.at H5.out (by rw[HV.out];exact tr);have Hz:=(tJ.out.2.2 y (List.mem_of_getElem? hy)).2;obtain⟨yf,yv⟩:=y;have tF:=hid hy;have tV:w3.cell? ⟨QB,qoff+k*2+1,none⟩=some (.int .i64 yv):=HQ 1 kS;have tN:0≤yv∧yv<700:=Hz;clear hy HQ Hz;go_wp2_with fail
       obtain⟨t5,Hg⟩:∃ z,z=(if t4<yv+1 then yv+1 else t4):=⟨_,rfl⟩
       rw[←Hg];have t7:t4≤t5∧yv+1≤t5∧t5≤10000:=by rw[Hg];split<;>omega
       clear Hg
       go_roundw
       case rel=>exact⟨t5,k+1,by trivial,by go_num,kT,⟨kT,kT⟩,(fun j y2 hj h2=>by
        by_cases e:j=k
        ·subst e;rw[tF.out]at h2;cases h2;show yv<t5;omega
        ·have:=h6.out j y2 kT h2;omega),by trivial⟩
       case measure=>simp[intOf];omega
      ·obtain rfl:ql=k:=kT
       go_wp2_with fail
       go_roundw
       case rel=>exact⟨t4,i+1,by trivial,by go_num,kT,⟨kT,kT⟩,(fun j p2 hj h2=>by
        by_cases e:j=i
        ·subst e;rw[HP.out]at h2;cases h2
         exact⟨by show pd<t4;omega,fun y2 h3=>by
          obtain⟨z,hz⟩:=List.getElem?_of_mem h3;exact h6.out z y2 (by have h8:z<pin.length:=(List.getElem?_eq_some_iff.1 hz).1;have:=HV.out;omega) hz⟩
        ·have h4:=hH.out j p2 kT h2;exact⟨kT,fun y2 h3=>by have:=h4.2 y2 h3;omega⟩),by trivial⟩
       case measure=>simp[intOf];omega
    ·obtain rfl:pl=i:=kT
     have Hm:=h5.out.cell 1;go_wp2_with fail
     clear tn Hm Hk
     go_loopw [3,8] (fun tv iv wx=>∃ (t:Int) (i:Nat),tv=.int .i64 t∧iv=.int .i64 i∧i≤il∧(t2≤t∧t≤10000)∧(∀ (j:Nat) (x:MaV),j<i→ins[j]? = some x→∀ r∈takes7 x.m++makes7 x.m,r<t)∧Since w3 wx) (fun _ iv _=>il-(intOf iv).toNat)
     case atStart=>exact⟨t2,0,rfl,rfl,Nat.zero_le _,⟨Int.le_refl _,Hh.2⟩,(fun j x hj=>by omega),.refl _⟩
     case round =>
      obtain⟨t6,t8⟩:∃ z,z=t2:=⟨_,rfl⟩
      obtain⟨t2,i,rfl,rfl,hi,Hh,hW,HF⟩:=hrel;have Ha:=hid hW;have hF:=hid HF;clear hW HF;have hd:=h5.out.keep hF.out;have Hm:=hd.cell 1;have tm:=hd.cell 2;have tl:=hd.cell 3;have tj:=hd.cell 4;have ti:=hd.cell 5;have th:=hd.cell 6;have Hk:=hd.lt;have Hx:=hid hd;clear hd;by_cases HN:i<il
      ·obtain⟨IB,ioff,x,rfl,Hq,hx,HO,He⟩:=RowIn.at (RowIn.keep WH.keep H8.out hF.out) (by rw[HZ.out];exact HN);have HA:=List.mem_of_getElem? hx;have hI:=hG.out.ins x HA;obtain⟨xm,xav⟩:=x;have HX:=hid hx;have hZ:=zH (Zi wr xav xm.args∧xm.args.length≤1000) ⟨He,by have h8:xm.args.length≤4:=hI.few;omega⟩;have Hs:=zH ((takes7 xm).length≤4) (VJ hI);have HW:=zH ((makes7 xm).length≤2) Ko;have hJ:=hid (show ∀ r∈takes7 xm++makes7 xm,0≤r∧r<10000 from fun r hr=>by
        rcases List.mem_append.1 hr with hr|hr
        ·exact Qa hI r hr
        ·exact Qq hI r hr)
       have H0:=hid (fun (w5:World) (hs:Since wr w5)=>show (∀ t,t<8→w5.cell? ⟨IB,ioff+i*8+t,none⟩=(Z9 ⟨xm,xav⟩)[t]?)∧IB<w5.heap.size from⟨fun t ht=>by rw[hs.cell (p:=⟨IB,ioff+i*8+t,none⟩) Hq];exact HO t ht,Nat.lt_of_lt_of_le Hq hs.size⟩)
       clear hx HA hI He HO;go_upto_region 17 with fail
       clear Hm tm tl tj ti th Hk Hq;refine Zg 14 rfl kK kK kK kS
        [IsNilOf 3 wr,Is (.pointer (some ⟨nb,1,none⟩)),Is (.slice (some ⟨IB,ioff,none⟩) il ic),Is (.int .i64 i),Is (.pointer (some ⟨IB,ioff+i*8,none⟩)),Is (mv xm xav),Zn .i64 (takes7 xm),Yo 3 wr (takes7 xm),Is (.pointer (some ⟨nb,1,none⟩)),Is (.slice (some ⟨IB,ioff,none⟩) il ic),Is (.int .i64 i),Is (.pointer (some ⟨IB,ioff+i*8,none⟩)),Is (mv xm xav),Zn .i64 (makes7 xm)]
        (by repeat (first | exact trivial | refine⟨Is.stable _,?_⟩ | refine⟨IsNilOf.stable _ _,?_⟩ | refine⟨Yo.stable _ _ _,?_⟩ | refine⟨Zn.stable _ _,?_⟩)) ⟨?_,?_,?_,?_,?_,?_,?_,?_,?_,?_,?_,?_,?_,?_,trivial⟩ ?_
       rotate_right
       ·intro vs w5 hs hk;simp only[List.take,List.drop,putAll,Act.put,Zc,Ze,Is,List.setIfInBounds_toArray,List.set_cons_zero,List.set_cons_succ,Nat.reduceAdd]at hk ⊢;try simp only[hk]
        have h7:Yo 3 wr (takes7 xm) (vs 7) w5:=by exact hk.2.2.2.2.2.2.2.1
        have HS:Zt .i64 w5 (vs 13) (makes7 xm):=by exact hk.2.2.2.2.2.2.2.2.2.2.2.2.2.1
        generalize vs 7=v7 at *;generalize vs 13=v13 at *;have HT:=hid hs;have H7:=hid h7;have tM:=hid HS;have K2:=zH ((takes7 xm).length+(makes7 xm).length≤1000000) (by have:=Hs.out;have:=HW.out;omega);clear hk hs h7 HS;go_upto_region 18 with (refine Zo (base:=wr.heap.size) .i64 rfl _ _ 22 rfl 3 (.int .i64 0) 8 Tryz.underlying22 Tryz.info3 rfl kS v7 v13 (takes7 xm) (makes7 xm) rfl rfl H7.out tM.out K2.out HT.out.size ?_;intro v6 w6 hT HD Hy;have Hv:=hid hT;have tI:=zH (Since wr w6) (HD.toSince HT.out fun q hq e=>by have:=(World.ownsRow.lt H7.out q e).1;omega);clear hT HD Hy)
        obtain⟨la,lc,HK⟩:=Zf Hv.out;obtain⟨ll,hn⟩:∃ z,(takes7 xm++makes7 xm).length=z:=⟨_,rfl⟩
        rw[hn]at HK;subst HK;have hK:=hid hn;have tR:ll≤6:=by have:=Hs.out;have:=HW.out;rw[List.length_append]at hn;omega
        have h0:=zH (Zt .i64 w6 (.slice la ll lc) (takes7 xm++makes7 xm)) (by have h9:=ZF Hv.out;exact h9);clear hn;go_wp2_with fail
        go_loopw [3,10] (fun tv iv w7=>∃ (t:Int) (k:Nat),tv=.int .i64 t∧iv=.int .i64 k∧k≤ll∧(t2≤t∧t≤10000)∧(∀ (j:Nat) (r:Int),j<k→(takes7 xm++makes7 xm)[j]? = some r→r<t)∧w7=w6) (fun _ iv _=>ll-(intOf iv).toNat)
        case atStart=>exact⟨t2,0,rfl,rfl,Nat.zero_le _,⟨Int.le_refl _,Hh.2⟩,(fun j r hj=>by omega),rfl⟩
        case round =>
         obtain⟨t,k,rfl,rfl,hk,ht,hC,hf⟩:=hrel;have e9:=hf.symm;clear hf;subst e9;have hD:=hid hC;clear hC;by_cases Hn:k<ll
         ·obtain⟨r,hr⟩:∃ r,(takes7 xm++makes7 xm)[k]? = some r:=⟨_,List.getElem?_eq_getElem (by rw[hK.out];exact Hn)⟩
          obtain⟨LB,loff,rfl,tE,tt⟩:=XH h0.out hr;have tg:=hJ.out r (List.mem_of_getElem? hr);exact zy
         ·obtain rfl:ll=k:=kT
          go_wp2_with fail
          go_roundw
          case rel=>exact⟨t,i+1,by trivial,by go_num,kT,⟨kT,kT⟩,(fun j x hj hx=>by
           by_cases e:j=i
           ·subst e;rw[HX.out]at hx;cases hx
            exact fun r hr=>by
             obtain⟨z,hz⟩:=List.getElem?_of_mem hr;exact hD.out z r (by have h8:z<(takes7 xm++makes7 xm).length:=(List.getElem?_eq_some_iff.1 hz).1;rw[hK.out]at h8;exact h8) hz
           ·intro r hr;have:=Ha.out j x kT hx r hr;omega),hF.out.trans tI.out⟩
          case measure=>simp[intOf];omega
       all_goals
        intro vs w5 hs hk _;simp only[List.take,putAll,Act.put,Zk,Ze,Is,List.setIfInBounds_toArray,List.set_cons_zero,List.set_cons_succ,Nat.reduceAdd]at hk ⊢;try simp only[hk]
       ·exact yK
       ·exact jK
       ·exact qG
       iterate 2
        ·exact jK
       ·exact zp
       ·clear hk;go_wp2_with fail
        refine (JJ xm xav w5 (hZ.out.1.keep hs) hZ.out.2).mono ?_;rintro e w6 ⟨v,rfl,hv,Hi⟩;go_wp2
        exact⟨_,rfl,hv,Hi⟩
       ·have hz:=hs.size;have H3:IsNilOf 3 wr (vs 0) w5:=by exact hk.1
        have H1:=Ju (show Zt .i64 w5 (vs 6) (takes7 xm) from by exact hk.2.1)
        have t0:=Hs.out;generalize vs 0=v5 at *;generalize vs 6=v7 at *;clear hk;refine Yt (w0:=wr) rfl _ _ 22 rfl 3 (.int .i64 0) 1 8 Tryz.underlying22 Tryz.info3 rfl kS kS v5 v7 (takes7 xm).length ((takes7 xm).map (Value.int .i64)) rfl rfl H3 H1 kU kT (fun u hu=>by obtain⟨z,_,rfl⟩:=List.mem_map.1 hu;rfl) hz ?_;intro v' w3 H2 tf;go_wp2
        exact⟨_,rfl,H2,tf⟩
       ·exact jK
       ·exact qG
       iterate 2
        ·exact jK
       ·exact zp
       ·clear hk;go_wp2_with fail
        refine (JK xm xav w5 (hZ.out.1.keep hs) hZ.out.2).mono ?_;rintro e w6 ⟨v,rfl,hv,Hi⟩;go_wp2
        exact⟨_,rfl,hv,Hi⟩
      ·obtain rfl:il=i:=kT
       have H4:=hid (Hr.out.trans hF.out);have HC:=hM.out.2.2;dsimp only at HC;have tL:=zH (Vc n ⟨eop,ea,eb,eto,.slice ta eto.length tc,eimm⟩) hG.out.fin;clear HC hi HN;go_wp2_with fail
       refine (ZaR ⟨eop,ea,eb,eto,.slice ta eto.length tc,eimm⟩ wr ⟨_,_,_,rfl⟩).mono ?_;rintro e w7 ⟨v7,rfl,hP,HH⟩;have hJ:=hid (QY tL.out);have tH:=hid HH;obtain⟨l,hl⟩:∃ z,needs ⟨eop,ea,eb,eto,.slice ta eto.length tc,eimm⟩=z:=⟨_,rfl⟩
       rw[hl]at hJ hP;have HL:=hid hl;obtain⟨la,lc,rfl⟩:=Zb hP;have h0:=hid hP;obtain⟨ll,hn⟩:∃ z,l.length=z:=⟨_,rfl⟩
       rw[hn]at h0 ⊢;have tS:ll≤2:=by rw[←hn];exact hJ.out.2
       have hK:=hid hn;clear hl hP hn HH;go_wp2_with fail
       go_loopw [3,12] (fun tv iv w8=>∃ (t:Int) (k:Nat),tv=.int .i64 t∧iv=.int .i64 k∧k≤ll∧(t2≤t∧t≤10000)∧(∀ (j:Nat) (r:Int),j<k→l[j]? = some r→r<t)∧w8=w7) (fun _ iv _=>ll-(intOf iv).toNat)
       case atStart=>exact⟨t2,0,rfl,rfl,Nat.zero_le _,⟨Int.le_refl _,kT⟩,(fun j r hj=>by omega),rfl⟩
       case round =>
        obtain⟨t,k,rfl,rfl,hk,ht,hC,hf⟩:=hrel;have e9:=hf.symm;clear hf;subst e9;have hD:=hid hC;clear hC;by_cases Hn:k<ll
        ·obtain⟨r,hr⟩:∃ r,l[k]? = some r:=⟨_,List.getElem?_eq_getElem (by rw[hK.out];exact Hn)⟩
         obtain⟨LB,loff,rfl,tE,tt⟩:=XH h0.out hr;have tg:=hJ.out.1 r (List.mem_of_getElem? hr);exact zy
        ·obtain rfl:ll=k:=kT
         go_wp2_with fail
         go_roundw
         case rel =>
          have tD:BBelow t ⟨phs,.slice pa pl pc,ins,.slice ia il ic,⟨eop,ea,eb,eto,.slice ta eto.length tc,eimm⟩⟩:=by
           refine⟨fun p hp=>?_,fun p hp y hy=>?_,fun x hx r hr=>?_,fun r hr=>?_⟩
           ·obtain⟨j,hj⟩:=List.getElem?_of_mem hp;have:=(hH.out j p (by have h8:j<phs.length:=(List.getElem?_eq_some_iff.1 hj).1;have:=Hu.out;omega) hj).1
            omega
           ·obtain⟨j,hj⟩:=List.getElem?_of_mem hp;have:=(hH.out j p (by have h8:j<phs.length:=(List.getElem?_eq_some_iff.1 hj).1;have:=Hu.out;omega) hj).2 y hy
            omega
           ·obtain⟨j,hj⟩:=List.getElem?_of_mem hx;have:=Ha.out j x (by have h8:j<ins.length:=(List.getElem?_eq_some_iff.1 hj).1;have:=HZ.out;omega) hj r hr
            omega
           ·have hr:r∈l:=by rw[←HL.out];exact hr
            obtain⟨j,hj⟩:=List.getElem?_of_mem hr;exact hD.out j r (by have h8:=(List.getElem?_eq_some_iff.1 hj).1;have:=hK.out;omega) hj
          exact⟨t,b+1,by trivial,by go_num,kT,⟨kT,kT⟩,(fun j x hj hx=>by
           by_cases e:j=b
           ·subst e;rw[HY.out]at hx;cases hx;exact tD
           ·exact (Hb.out j x kT hx).mono kT),Ht.out.trans (H4.out.trans tH.out)⟩
         case measure=>simp[intOf];omega
  ·obtain rfl:n=b:=kT
   go_wp2_with fail
   go_ret
   exact⟨t1,rfl,HE,fun x hx=>by
    obtain⟨j,hj⟩:=List.getElem?_of_mem hx;exact Hb.out j x (by have:=(List.getElem?_eq_some_iff.1 hj).1;have:=Hw.out;omega) hj,HU.out.trans Ht.out⟩
structure NvG (params S:Int) (bs:List ZC) (n:Nat) (ow:List Int):Prop where
 len:bs.length=n
 n9:1≤n∧n≤9
 pa:0≤params∧params≤4∧params≤S
 Sle:S≤16384
 each:∀ b∈bs,KI n b∧BBelow S b∧b.ins.length≤3600
 own:∀ (j:Nat) (b:ZC),bs[j]? = some b→∃ o:Int,ow[j]? = some o∧0≤o∧o+b.phis.length≤S
structure NvD (mq xq:Nat) (params:Int) (bs:List ZC) (BB boff n bc:Nat) (k:ZC) (OB ooff oc:Nat) (ow:List Int) (w:World):Prop where
 mbox:HeapIs w mq #[.int .i64 params,.slice (some ⟨BB,boff,none⟩) n bc] 101
 prog:RowIn mbcells 7 MBlkIn w (.slice (some ⟨BB,boff,none⟩) n bc) bs
 xbox:HeapIs w xq #[k.phv,k.insv,.int .i64 k.fin.op,.int .i64 k.fin.a,.int .i64 k.fin.b,k.fin.tov,.int .i32 k.fin.imm] 135
 own:Zt .i64 w (.slice (some ⟨OB,ooff,none⟩) n oc) ow
 xin:MBlkIn w k
theorem NvD.keep {mq xq:Nat} {params:Int} {bs:List ZC} {BB boff n bc:Nat} {k : ZC} {OB ooff oc:Nat} {ow:List Int} {w w':World} (h:NvD mq xq params bs BB boff n bc k OB ooff oc ow w) (s:Since w w'):NvD mq xq params bs BB boff n bc k OB ooff oc ow w':=
 ⟨h.mbox.keep s,RowIn.keep MBlkIn.keep h.prog s,h.xbox.keep s,h.own.keep s,MBlkIn.keep w w' k h.xin s⟩
theorem NvD.ocell {mq xq:Nat} {params:Int} {bs:List ZC} {BB boff n bc:Nat} {k : ZC} {OB ooff oc:Nat} {ow:List Int} {w : World} (h:NvD mq xq params bs BB boff n bc k OB ooff oc ow w) {j : Nat} {o : Int} (hj:ow[j]? = some o):w.cell? ⟨OB,ooff+j,none⟩=some (.int .i64 o)∧OB<w.heap.size:=by
 obtain⟨b,off,h1,h2,h3⟩:=XH h.own hj
 cases h1
 exact⟨h3,h2⟩
structure NvY (S:Int) (wY:World) (c yq:Nat) (v:Value) (xs:List PlV) (w:World):Prop where
 box:HeapIs w yq #[v,.int .i64 0,.int .i64 0,.int .i64 0,.slice none 0 0,.int .i32 0] 34
 row:OwnRow plcells 9 38 wY.heap.size w v xs
 each:∀ y∈xs,PlNew wY.heap.size S w y
 few:xs.length≤c
 old:Since wY w
 low:wY.heap.size≤yq
section
variable {S : Int} {wY w w2 w6:World} {c c' yq:Nat} {v v':Value} {xs ys:List PlV}
theorem NvY.keep (h:NvY S wY c yq v xs w) (s:Since w w2):NvY S wY c yq v xs w2:=⟨h.box.keep s,h.row.keep s,fun y hy=>(h.each y hy).keep s,h.few,h.old.trans s,h.low⟩
theorem NvY.more (h:NvY S wY c yq v xs w) (hc:c≤c'):NvY S wY c' yq v xs w:=⟨h.box,h.row,h.each,Nat.le_trans h.few hc,h.old,h.low⟩
theorem NvY.put (h:NvY S wY c yq v xs w2) (ha:OwnRow plcells 9 38 wY.heap.size w6 v' (xs++ys)) (t:Turn (fun q=>v.ownBlock=some q) w2 w6) (hy:∀ y∈ys,PlNew wY.heap.size S w2 y) (hl:xs.length+ys.length≤c'):NvY S wY c' yq v' (xs++ys) (w6.setCell ⟨yq,0,none⟩ v'):=by
 have hc:∀ q,v.ownBlock=some q→wY.heap.size≤q:=fun q hq=>(World.ownsRow.lt (show w2.ownsRow _ _ _ _ _ _ from h.row) q hq).1
 have hb:=h.box.turn t (Zm h.row h.box kS);have t2:Turn (fun q=>q=yq) w6 (w6.setCell ⟨yq,0,none⟩ v'):=(Turn.refl (fun q=>q=yq) w6).setCell (p:=⟨yq,0,none⟩) rfl _;have hp:∀ y,PlNew wY.heap.size S w2 y→PlNew wY.heap.size S (w6.setCell ⟨yq,0,none⟩ v') y:=fun y hy=>by
  have h1:=hy.turn h.row t;exact⟨Zj h1.args t2 fun q hq e=>Zm h1.args hb kS (e ▸ hq),h1.good,h1.src⟩
 refine⟨hb.set 0 v',Zj ha t2 fun q hq e=>Zm ha hb kS (e ▸ hq),fun y hm=>?_,by rw[List.length_append];exact hl,t2.toSince (t.toSince h.old fun q hq e=>by have:=hc q e;omega) fun q hq e=>by have:=h.low;omega,h.low⟩;rcases List.mem_append.1 hm with hm|hm
 ·exact hp y (h.each y hm)
 ·exact hp y (hy y hm)
end
theorem GoodRow.low {B B':Nat} {S : Int} {k : Nat} {v : Value} {w : World} (h:GoodRow B S k v w) (hb:B'≤B):GoodRow B' S k v w:=by
 obtain⟨xs,h1,h2,h3⟩:=h;exact⟨xs,h1,h2,fun y hy=>(h3 y hy).base hb⟩
noncomputable def VCode (p:List Nat):Code:=VT p (Tryz.f50.body.getD .skip)
def FrV (l:List (Nat × Value)) (a:Act):Prop:=a.tmps.size=242∧a.defers=[]∧Sl l a
theorem ZI {l : List (Nat × Value)} {a : Act} (h1:a.tmps.size=242) (h2:a.defers=[]) (h3:Sl l a):FrV l a:=⟨h1,h2,h3⟩
theorem Zba (u:Nat→Value):(u 0::u 1::u 2::u 3::u 4::u 5::u 6::u 7::u 8::u 9::u 10::u 11::u 12::u 13::u 14::u 15::u 16::u 17::u 18::u 19::u 20::u 21::u 22::u 23::u 24::u 25::u 26::u 27::u 28::u 29::u 30::u 31::u 32::u 33::u 34::u 35::u 36::u 37::u 38::u 39::u 40::u 41::u 42::u 43::u 44::u 45::u 46::u 47::u 48::u 49::u 50::u 51::u 52::u 53::u 54::u 55::u 56::u 57::u 58::u 59::u 60::u 61::u 62::u 63::u 64::u 65::u 66::u 67::u 68::u 69::u 70::u 71::u 72::u 73::u 74::u 75::u 76::u 77::u 78::u 79::u 80::u 81::u 82::u 83::u 84::u 85::u 86::u 87::u 88::u 89::u 90::u 91::u 92::u 93::u 94::u 95::u 96::u 97::u 98::u 99::u 100::u 101::u 102::u 103::u 104::u 105::u 106::u 107::u 108::u 109::u 110::u 111::u 112::u 113::u 114::u 115::u 116::u 117::u 118::u 119::u 120::u 121::u 122::u 123::u 124::u 125::u 126::u 127::u 128::u 129::u 130::u 131::u 132::u 133::u 134::u 135::u 136::u 137::u 138::u 139::u 140::u 141::u 142::u 143::u 144::u 145::u 146::u 147::u 148::u 149::u 150::u 151::u 152::u 153::u 154::u 155::u 156::u 157::u 158::u 159::u 160::u 161::u 162::u 163::u 164::u 165::u 166::u 167::u 168::u 169::u 170::u 171::u 172::u 173::u 174::u 175::u 176::u 177::u 178::u 179::u 180::u 181::u 182::u 183::u 184::u 185::u 186::u 187::u 188::u 189::u 190::u 191::u 192::u 193::u 194::u 195::u 196::u 197::u 198::u 199::u 200::u 201::u 202::u 203::u 204::u 205::u 206::u 207::u 208::u 209::u 210::u 211::u 212::u 213::u 214::u 215::u 216::u 217::u 218::u 219::u 220::u 221::u 222::u 223::u 224::u 225::u 226::u 227::u 228::u 229::u 230::u 231::u 232::u 233::u 234::u 235::u 236::u 237::u 238::u 239::u 240::u 241::[]:List Value).toArray=((List.range 242).map u).toArray:=by kernel_rfl
theorem ZH {l : List (Nat × Value)} {a : Act} (h:FrV l a):∃ u:Nat→Value,a=⟨(u 0::u 1::u 2::u 3::u 4::u 5::u 6::u 7::u 8::u 9::u 10::u 11::u 12::u 13::u 14::u 15::u 16::u 17::u 18::u 19::u 20::u 21::u 22::u 23::u 24::u 25::u 26::u 27::u 28::u 29::u 30::u 31::u 32::u 33::u 34::u 35::u 36::u 37::u 38::u 39::u 40::u 41::u 42::u 43::u 44::u 45::u 46::u 47::u 48::u 49::u 50::u 51::u 52::u 53::u 54::u 55::u 56::u 57::u 58::u 59::u 60::u 61::u 62::u 63::u 64::u 65::u 66::u 67::u 68::u 69::u 70::u 71::u 72::u 73::u 74::u 75::u 76::u 77::u 78::u 79::u 80::u 81::u 82::u 83::u 84::u 85::u 86::u 87::u 88::u 89::u 90::u 91::u 92::u 93::u 94::u 95::u 96::u 97::u 98::u 99::u 100::u 101::u 102::u 103::u 104::u 105::u 106::u 107::u 108::u 109::u 110::u 111::u 112::u 113::u 114::u 115::u 116::u 117::u 118::u 119::u 120::u 121::u 122::u 123::u 124::u 125::u 126::u 127::u 128::u 129::u 130::u 131::u 132::u 133::u 134::u 135::u 136::u 137::u 138::u 139::u 140::u 141::u 142::u 143::u 144::u 145::u 146::u 147::u 148::u 149::u 150::u 151::u 152::u 153::u 154::u 155::u 156::u 157::u 158::u 159::u 160::u 161::u 162::u 163::u 164::u 165::u 166::u 167::u 168::u 169::u 170::u 171::u 172::u 173::u 174::u 175::u 176::u 177::u 178::u 179::u 180::u 181::u 182::u 183::u 184::u 185::u 186::u 187::u 188::u 189::u 190::u 191::u 192::u 193::u 194::u 195::u 196::u 197::u 198::u 199::u 200::u 201::u 202::u 203::u 204::u 205::u 206::u 207::u 208::u 209::u 210::u 211::u 212::u 213::u 214::u 215::u 216::u 217::u 218::u 219::u 220::u 221::u 222::u 223::u 224::u 225::u 226::u 227::u 228::u 229::u 230::u 231::u 232::u 233::u 234::u 235::u 236::u 237::u 238::u 239::u 240::u 241::[]).toArray,[]⟩∧∀ i v,a.tmps[i]? = some v→u i=v:=by
 obtain⟨t,d⟩:=a;obtain⟨h1,h2,_⟩:=h;dsimp only at h1 h2;obtain⟨u,hu⟩:∃ u:Nat→Value,∀ i,u i=t.getD i undef:=⟨fun i=>t.getD i undef,fun _=>rfl⟩
 refine⟨u,?_,fun i v hv=>?_⟩
 ·rw[h2];refine congrArg (fun x=>Act.mk x []) (Eq.trans ?_ (Zba u).symm);exact jq
 ·exact jf
theorem ZbM (wY:World) (mq xq rq pq yq:Nat) (params S:Int) (bs:List ZC) (BB boff n bc:Nat) (k:ZC) (OB ooff oc:Nat) (ow:List Int) (b:Nat) (v0:Value) (xs0:List PlV) (a0:Act) (w1:World) (Q0:Exit→Act→World→Prop) (hC:FrV [(2,.pointer (some ⟨mq,0,none⟩)),(4,.pointer (some ⟨rq,0,none⟩)),(6,.pointer (some ⟨pq,0,none⟩)),(7,.slice (some ⟨OB,ooff,none⟩) n oc),(10,.int .i64 b),(11,.pointer (some ⟨xq,0,none⟩)),(12,.pointer (some ⟨yq,0,none⟩)),(13,.int .i64 (0:Nat))] a0)
  (hd:NvD mq xq params bs BB boff n bc k OB ooff oc ow wY) (hg:NvG params S bs n ow) (hB:bs[b]? = some k) (hb:NvY S wY 0 yq v0 xs0 w1)
  (hQ:∀ a1 w2 v2 xs2,FrV [(2,.pointer (some ⟨mq,0,none⟩)),(4,.pointer (some ⟨rq,0,none⟩)),(6,.pointer (some ⟨pq,0,none⟩)),(7,.slice (some ⟨OB,ooff,none⟩) n oc),(10,.int .i64 b),(11,.pointer (some ⟨xq,0,none⟩)),(12,.pointer (some ⟨yq,0,none⟩))] a1→NvY S wY 4 yq v2 xs2 w2→Q0 .normal a1 w2):Code.wp Tryz.prog (VCode [1,1,1,1,1,1,1,0,1,0,0,1,0,0,1,1,0,1]) Q0 a0 w1:=by
 obtain⟨u,he,hu⟩:=ZH hC;obtain⟨g1,g2,s2,s4,s6,s7,s10,s11,s12,s13,g3⟩:=hC;have e2:=hu 2 _ s2;have e4:=hu 4 _ s4;have e6:=hu 6 _ s6;have e7:=hu 7 _ s7;have e10:=hu 10 _ s10;have e11:=hu 11 _ s11;have e12:=hu 12 _ s12;have e13:=hu 13 _ s13;rw[e2,e4,e6,e7,e10,e11,e12,e13]at he;subst he;clear hu g1 g2 g3 e2 s2 e4 s4 e6 s6 e7 s7 e10 s10 e11 s11 e12 s12 e13 s13
 conv=>arg 2;whnf
 have HQ:=hid hQ;have HD:=hid hd;have HG:=hid hg;have h0:=hid hB;clear hQ hd hg hB;go_wp2_with fail
 refine ZO (fun t ac wr=>∃ (i:Nat) (v:Value) (xs:List PlV),t=4-i∧(i:Int)≤params∧FrV [(2,.pointer (some ⟨mq,0,none⟩)),(4,.pointer (some ⟨rq,0,none⟩)),(6,.pointer (some ⟨pq,0,none⟩)),(7,.slice (some ⟨OB,ooff,none⟩) n oc),(10,.int .i64 b),(11,.pointer (some ⟨xq,0,none⟩)),(12,.pointer (some ⟨yq,0,none⟩)),(13,.int .i64 i)] ac∧NvY S wY i yq v xs wr) 4 ⟨0,_,_,rfl,by have:=HG.out.pa;omega,(ZI rfl rfl (Za rfl (Za rfl (Za rfl (Za rfl (Za rfl (Za rfl (Za rfl (Za rfl (Zh _)))))))))),hb⟩ ?_
 ·clear hb;intro t a1 wr K hJ hK;have hT:=hid hK;clear hK;obtain⟨i,v,xs,rfl,hi,hf,hb⟩:=hJ;obtain⟨u,he,hu⟩:=ZH hf;obtain⟨g1,g2,s2,s4,s6,s7,s10,s11,s12,s13,g3⟩:=hf;have e2:=hu 2 _ s2;have e4:=hu 4 _ s4;have e6:=hu 6 _ s6;have e7:=hu 7 _ s7;have e10:=hu 10 _ s10;have e11:=hu 11 _ s11;have e12:=hu 12 _ s12;have e13:=hu 13 _ s13;rw[e2,e4,e6,e7,e10,e11,e12,e13]at he;subst he;clear hu g1 g2 g3 e2 s2 e4 s4 e6 s6 e7 s7 e10 s10 e11 s11 e12 s12 e13 s13;have hh:=hid hb;have hm:=(HD.out.keep hb.old).mbox;have hL:=hm.cell 0;have hI:=hm.lt;have hp:=HG.out.pa;clear hb hm;by_cases hr:b=0
  ·have hD:((b:Int)==0)=true:=by rw[hr];rfl
   clear hr;by_cases hV:(i:Int)<params
   ·have hF:=zH (0≤(i:Int)∧(i:Int)<4) kT;have hS:=zH (0≤(i:Int)∧(i:Int)<100000) kT;have hR:=zH (0≤(i:Int)∧(i:Int)<S) kT;have hU:=zH (i≤100000) kT;go_upto_region 19 with fail
    clear hL hI hD;refine Zg 6 rfl kK kK kK kS
     [Is (.pointer (some ⟨yq,0,none⟩)),Is v,Is (.int .i64 i),Is (.int .i64 i),Is (.agg #[.int .i64 31,.int .i64 0,.int .i64 0,.int .i64 i,.int .i64 0,.int .i64 0,.int .i32 i,.slice none 0 0,.int .i64 (-1)]),GoodRow wY.heap.size S 1]
     jU ⟨?_,?_,?_,?_,?_,?_,trivial⟩ ?_
    rotate_right
    ·intro vs w5 hs hk;simp only[List.take,List.drop,putAll,Act.put,Zc,Ze,Is,List.setIfInBounds_toArray,List.set_cons_zero,List.set_cons_succ,Nat.reduceAdd]at hk ⊢;try simp only[hk]
     obtain⟨ys,hw,hv,hx⟩:GoodRow wY.heap.size S 1 (vs 5) w5:=by exact hk.2.2.2.2.2.1
     generalize vs 5=xv at *;have ha:=hid (hh.out.keep hs);have hN:=hid hw;have hM:=hid hv;have hE:=hid hx;have hP:=zH (xs.length+ys.length≤1000000) (by have:=hh.out.few;have:=hU.out;omega);clear hk hs hw hv hx;go_wp2_with (refine Z8 (base:=wY.heap.size) plcells 9 ZE kS rfl _ _ 30 rfl 38 (.agg #[.int .i64 0,.int .i64 0,.int .i64 0,.int .i64 0,.int .i64 0,.int .i64 0,.int .i32 0,.slice none 0 0,.int .i64 0]) 88 Tryz.underlying30 kO rfl kS v xv xs ys rfl rfl ha.out.row (XG ZE kS hM.out) (Wt hE.out) hP.out ha.out.old.size ?_;intro v' w6 hj ht ho;obtain⟨va2,vc2,hz⟩:=Zf (show w6.ownsRow _ _ _ _ _ _ from hj);obtain⟨l2,hA⟩:∃ z,(xs++ys).length=z:=⟨_,rfl⟩;rw[hA]at hz;subst hz;have hG:=hid hj;have hO:=hid ht;have hZ:=hid ho;have hn:=ha.out.box.turn ht (Zm ha.out.row ha.out.box kS);have hW:=hn.lt;have hX:=hn.frozen;have hY:=hn.cell 0;clear hj ht ho hn hA)
     exact hT.out (4-(i+1)) _ _ kT ⟨i+1,_,_,rfl,kT,(ZI rfl rfl (Za rfl (Za rfl (Za rfl (Za rfl (Za rfl (Za rfl (Za rfl (Za rfl (Zh _)))))))))),ha.out.put hG.out hO.out hE.out (by have:=ha.out.few;have:=hN.out;omega)⟩
    all_goals
     intro vs w5 hs hk _;simp only[List.take,putAll,Act.put,Zk,Ze,Is,List.setIfInBounds_toArray,List.set_cons_zero,List.set_cons_succ,Nat.reduceAdd]at hk ⊢;try simp only[hk]
    ·exact jK
    ·have hq:HeapIs w5 yq #[v,.int .i64 0,.int .i64 0,.int .i64 0,.slice none 0 0,.int .i32 0] 34:=hh.out.box.keep hs;have hc:=hq.cell 0;have hl:=hq.lt;clear hq;exact jK
    iterate 2
     ·exact jK
    ·clear hk;go_wp2_with fail
     refine (Wc i i w5 hF.out hS.out).mono ?_;rintro e w6 ⟨rfl,hH⟩;go_wp2
     exact⟨_,rfl,rfl,hH⟩
    ·clear hk;go_wp2
     exact⟨_,rfl,⟨[Yr 31 i i],Nat.le_refl 1,Zdi (HeapIs.new _ _ _),fun y hy=>by rw[List.mem_singleton.1 hy];exact PlNew.laid (.inr rfl) hF.out hR.out HG.out.Sle⟩,(Since.refl _).alloc _⟩
   ·exact qI
  ·have hD:((b:Int)==0)=false:=by rw[beq_eq_false_iff_ne];omega
   clear hr;exact qI
end Go.Proofs.YtimpddecdodddaaGreat
