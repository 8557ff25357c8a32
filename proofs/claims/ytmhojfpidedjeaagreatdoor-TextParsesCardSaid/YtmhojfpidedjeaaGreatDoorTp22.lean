import Derived.Test.YtmhojfpidedjeaaGreatDoorTp21
namespace Go.Proofs.YtmhojfpidedjeaaGreatDoor
open Go.RowKit Go.Lib
set_option linter.unusedVariables false
set_option maxHeartbeats 8000000
set_option maxRecDepth 100000
theorem Zgx (x:Int):(⟨(dS x).toArray⟩:ByteArray).extract 1 (⟨(dS x).toArray⟩:ByteArray).size=⟨(Lib.itoa x).toArray⟩:=by
 apply Zn
 rw[Zu,Lib.extract_data];unfold dS;simp
theorem Zco (f:FnV) (w:World) (hf:FnIn w f) (hr:FnR f) (hn:(XP f.d).length≤500000) :
  Calls Tryz.prog 12 #[fv f] w (Xl ⟨(XP f.d).toArray⟩ w):=by
 obtain⟨params,blocks,bv⟩:=f;obtain⟨ba,bc,e,tl⟩:=RowIn.shape hf;obtain rfl:bv=.slice ba blocks.length bc:=e;unfold maxLen at tl;have HF:=hid hf;have HR:=hid hr;rw[Za0]at hn ⊢;simp only[FnV.d,List.length_map]at hn ⊢;have HT:Hid (∀ k,k≤blocks.length→(headS params).length+(blksS (blocks.map FBlk.d) k).length≤500000):=hid (by
  intro k hk;have h1:=Zao (blocks.map FBlk.d) blocks.length k hk;rw[List.length_append]at hn;omega)
 have HI:=hid ((Since.refl w).alloc (.cells #[.int .i64 params,.slice ba blocks.length bc] 24));have HL:=hid (HeapIs.new w #[.int .i64 params,.slice ba blocks.length bc] 24);clear hf hr hn;unfold fv;dsimp only;obtain⟨z9,hZ⟩:∃ z:ByteArray,⟨(dS params).toArray⟩=z:=⟨_,rfl⟩
 have hR:=fun W=>YL params W HR.out.params
 rw[hZ]at hR;have H5:=hid hR;have tN:z9.size≤1000000:=by rw[←hZ,Zu];have:=Ve params HR.out.params;omega
 have HH:=zH ((⟨#[102,117,110,99]⟩:ByteArray)++z9++⟨#[10]⟩=⟨(headS params).toArray⟩) (by rw[←hZ];unfold headS;apply Zn;rw[Zg,Zg];simp);clear hZ hR;go_enter Tryz.func12,Tryz.ntmps12
 go_wp2_with fail
 refine (H5.out _).mono ?_;rintro e w1 ⟨rfl,Hl⟩;have HM:=hid (HL.out.keep Hl);have HG:=hid (HI.out.trans Hl);clear Hl HL HI;go_wp2_with fail
 go_loopw [3,4] (fun so io wr=>∃ (k:Nat) (out:ByteArray),out=⟨(headS params++blksS (blocks.map FBlk.d) k).toArray⟩∧so=.string out∧io=.int .i64 k∧k≤blocks.length∧Since w1 wr) (fun _ io _=>blocks.length-(intOf io).toNat)
 case atStart=>exact⟨0,_,by rw[HH.out];unfold blksS;simp,rfl,rfl,Nat.zero_le _,.refl _⟩
 case round =>
  obtain⟨k,out,hb,rfl,rfl,hk,hs⟩:=hrel;have Hr:=HM.out.keep hs;have Hp:wr.cell? ⟨w.heap.size,1,none⟩=some (.slice ba blocks.length bc):=Hr.cell 1;have hY:=Hr.lt;have HE:=hid hs;have HO:=hid hb;have tV:out.size≤500000:=by rw[hb,Zu,List.length_append];exact HT.out k hk
  clear Hr hs hb;by_cases HC:k<blocks.length
  ·obtain⟨rb,off,x,rfl,HB,hx,hc,HQ⟩:=RowIn.at HF.out HC;have Hs:=hid (HR.out.blocks x (List.mem_of_getElem? hx));have HJ:=hid (V3 (ZbJ FBlk.d hx));have hP:=HT.out (k+1) HC;rw[HJ.out,List.length_append]at hP;obtain⟨A,hA⟩:∃ A,headS params++blksS (blocks.map FBlk.d) k=A:=⟨_,rfl⟩
   rw[←Nat.add_assoc,←List.length_append,hA,Jg]at hP;rw[hA]at HO;obtain⟨phis,phv,ins,inv,⟨kd,args,argsv,tgt,tov,imm⟩⟩:=x;obtain⟨hi,hQ,hI,Hk⟩:=HQ;obtain⟨pa,pc,e,th⟩:=RowIn.shape hi;obtain rfl:phv=.slice pa phis.length pc:=e;obtain⟨na,nc,e,ti⟩:=RowIn.shape hQ;obtain rfl:inv=.slice na ins.length nc:=e;obtain⟨aa,ac,e⟩:=Zp hI;obtain rfl:argsv=.slice aa args.length ac:=e;obtain⟨ta,tc,e⟩:=Zp Hk;obtain rfl:tov=.slice ta tgt.length tc:=e;unfold maxLen at th ti;have Hy:=hid (hc 0 (by decide));have Hx:=hid (hc 1 (by decide));have tH:=hid (hc 2 (by decide));have tG:=hid (hc 3 (by decide));have tF:=hid (hc 4 (by decide));have tE:=hid (hc 5 (by decide));have hC:=hid HB;have tv:=hid hi;have tB:=hid hQ;have tI:=hid hI;have tm:=hid Hk;have HA:=hid hA;simp only[List.length_append,List.length_cons,List.length_nil]at hP;have HK:=hid hP;clear hi hQ hI Hk hA hc hx hP HB;obtain⟨z8,h0⟩:∃ z:ByteArray,⟨(dS (k:Int)).toArray⟩=z:=⟨_,rfl⟩
   have hS:=fun W=>YL (k:Int) W ⟨by omega,by omega⟩
   rw[h0]at hS;have H6:=hid hS;have tO:z8.size≤1000000:=by rw[←h0,Zu];have:=Ve (k:Int) ⟨by omega,by omega⟩;omega
   have hB:out++⟨#[98,108,111,99,107]⟩++z8++⟨#[10]⟩=⟨(A++W8 k).toArray⟩:=by
    rw[HO.out,←h0];unfold W8;apply Zn;rw[Zg,Zg,Zg];simp
   have HP:=hid hB;clear h0 hS hB;go_wp2_with fail
   refine (H6.out _).mono ?_;rintro e w2 ⟨rfl,hF⟩;have he:=HE.out.trans hF;have hh:=HG.out.trans he;have Hq:=HM.out.keep he;clear Hp hY;have Hp:w2.cell? ⟨w.heap.size,1,none⟩=some (.slice (some ⟨rb,off,none⟩) blocks.length bc):=Hq.cell 1;have hY:=Hq.lt;have c0:w2.cell? ⟨rb,off+k*6,none⟩=some (.slice pa phis.length pc):=(hh.cell (p:=⟨rb,off+k*6+0,none⟩) hC.out).trans Hy.out;have c1:w2.cell? ⟨rb,off+k*6+1,none⟩=some (.slice na ins.length nc):=(hh.cell (p:=⟨rb,off+k*6+1,none⟩) hC.out).trans Hx.out;have c2:w2.cell? ⟨rb,off+k*6+2,none⟩=some (.int .i64 kd):=(hh.cell (p:=⟨rb,off+k*6+2,none⟩) hC.out).trans tH.out;have c3:w2.cell? ⟨rb,off+k*6+3,none⟩=some (.slice aa args.length ac):=(hh.cell (p:=⟨rb,off+k*6+3,none⟩) hC.out).trans tG.out;have c4:w2.cell? ⟨rb,off+k*6+4,none⟩=some (.slice ta tgt.length tc):=(hh.cell (p:=⟨rb,off+k*6+4,none⟩) hC.out).trans tF.out;have c5:w2.cell? ⟨rb,off+k*6+5,none⟩=some (.int .i32 imm):=(hh.cell (p:=⟨rb,off+k*6+5,none⟩) hC.out).trans tE.out
   have ht:rb<w2.heap.size:=Nat.lt_of_lt_of_le hC.out hh.size;have HX:=hid (HeapIs.new w2 #[.slice pa phis.length pc,.slice na ins.length nc,.int .i64 kd,.slice aa args.length ac,.slice ta tgt.length tc,.int .i32 imm] 57);obtain⟨wo,te⟩:∃ z,z=w2:=⟨_,rfl⟩
   subst te;have Hu:=hid hh;have ts:=hid he;clear hF he hh Hq;go_wp2_with fail
   clear c0 c1 c2 c3 c4 c5 ht Hp hY;rw[HP.out];obtain⟨wx,Hj⟩:∃ z,wo.alloc (.cells #[.slice pa phis.length pc,.slice na ins.length nc,.int .i64 kd,.slice aa args.length ac,.slice ta tgt.length tc,.int .i32 imm] 57)=z:=⟨_,rfl⟩
   rw[Hj]at HX ⊢;have He:=zH (Since wo wx) (by rw[←Hj];exact (Since.refl _).alloc _)
   clear Hj;obtain⟨A1,hB⟩:∃ A1,A++W8 k=A1:=⟨_,rfl⟩
   have H2:A1.length=A.length+(W8 k).length:=by rw[←hB,List.length_append]
   have hK:=zH (A1.length+((phis.flatMap phT).length+((ins.flatMap inT).length+((Yi (Zt.d ⟨kd,args,.slice aa args.length ac,tgt,.slice ta tgt.length tc,imm⟩)).length+1)))≤500000) (by have:=HK.out;omega);rw[hB];have tJ:=hid hB;clear hB H2 HK HP
   go_loopw [3,6] (fun so io wr=>∃ (j:Nat) (out:ByteArray),out=⟨(A1++(phis.take j).flatMap phT).toArray⟩∧so=.string out∧io=.int .i64 j∧j≤phis.length∧Since wx wr) (fun _ io _=>phis.length-(intOf io).toNat)
   case atStart=>exact⟨0,_,by simp,rfl,rfl,Nat.zero_le _,.refl _⟩
   case round =>
    obtain⟨j,o2,hb,rfl,rfl,hj,hs⟩:=hrel;have ha:=HX.out.keep hs;have h6:wr.cell? ⟨wo.heap.size,0,none⟩=some (.slice pa phis.length pc):=ha.cell 0;have hp:=ha.lt;have ho:=hid hs;have Hg:=hid hb;have tU:o2.size≤500000:=by
     have h1:=Z3 phT phis j;have:=hK.out;rw[hb,Zu,List.length_append];omega
    clear hb;by_cases Hn:j<phis.length
    ·obtain⟨pb,po,p,rfl,hO,h7,h9,hu⟩:=RowIn.at tv.out Hn;have Hv:=hid (Hs.out.phis p (List.mem_of_getElem? h7));have h8:=Z3 phT phis (j+1);rw[ZI phT h7,List.length_append]at h8;have tt:=hid (ZI phT h7);obtain⟨dst,pins,pinv⟩:=p
     replace hu:YI w pinv pins:=hu
     obtain⟨ia,ic,e,tj⟩:=RowIn.shape hu;obtain rfl:pinv=.slice ia pins.length ic:=e;unfold maxLen at tj;have hi:phT ⟨dst,pins,.slice ia pins.length ic⟩=[112,104,105]++(dS dst++pins.flatMap YS)++[10]:=rfl;rw[hi]at h8;simp only[List.length_append,List.length_cons,List.length_nil]at h8;have hl:=zH ((A1++(phis.take j).flatMap phT).length+(3+((dS dst).length+(pins.flatMap YS).length)+1)≤500000) (by have:=hK.out;rw[List.length_append];omega);have hd:=Hu.out.trans (He.out.trans hs);have d0:wr.cell? ⟨pb,po+j*2,none⟩=some (.int .i64 dst):=(hd.cell (p:=⟨pb,po+j*2+0,none⟩) hO).trans (h9 0 (by decide));have d1:wr.cell? ⟨pb,po+j*2+1,none⟩=some (.slice ia pins.length ic):=(hd.cell (p:=⟨pb,po+j*2+1,none⟩) hO).trans (h9 1 (by decide));have ht:pb<wr.heap.size:=Nat.lt_of_lt_of_le hO hd.size;have Hw:=hid (h9 1 (by decide));have hH:=hid hO;have tu:=hid hu;obtain⟨z7,h2⟩:∃ z:ByteArray,⟨(dS dst).toArray⟩=z:=⟨_,rfl⟩
     have hT:=fun W=>YL dst W Hv.out.dst
     rw[h2]at hT;have H7:=hid hT;have tP:z7.size≤1000000:=by rw[←h2,Zu];have:=Ve dst Hv.out.dst;omega
     have HD:o2++⟨#[112,104,105]⟩++z7=⟨((A1++(phis.take j).flatMap phT)++([112,104,105]++dS dst)).toArray⟩:=by
      rw[Hg.out,←h2];apply Zn;rw[Zg,Zg];simp
     have HN:=hid HD;obtain⟨A2,hJ⟩:∃ A2,(A1++(phis.take j).flatMap phT)++([112,104,105]++dS dst)=A2:=⟨_,rfl⟩
     have H1:A2.length=(A1++(phis.take j).flatMap phT).length+(3+(dS dst).length):=by rw[←hJ];simp only[List.length_append,List.length_cons,List.length_nil]
     rw[hJ]at HN;have td:=hid hJ;have H4:=zH (A2.length+((pins.flatMap YS).length+1)≤500000) (by have:=hl.out;omega);clear h2 hT HD hJ H1 h9 hu h7 hi h8 hs hd hO;go_wp2_with fail
     refine (H7.out _).mono ?_;rintro e w3 ⟨rfl,he⟩;clear h6 hp d0 d1 ht;have tq:=hid (ho.out.trans he);clear he ha ho;go_wp2_with fail
     go_loopw [3,7] (fun so io wr=>∃ (m:Nat) (out:ByteArray),out=⟨(A2++(pins.take m).flatMap YS).toArray⟩∧so=.string out∧io=.int .i64 m∧m≤pins.length∧Since wx wr) (fun _ io _=>pins.length-(intOf io).toNat)
     case atStart=>exact⟨0,_,by rw[List.take_zero,List.flatMap_nil,List.append_nil];exact HN.out,rfl,rfl,Nat.zero_le _,tq.out⟩
     case round =>
      obtain⟨m,out,hb,rfl,rfl,hm,hs⟩:=hrel;have ha:=HX.out.keep hs;have h6:wr.cell? ⟨wo.heap.size,0,none⟩=some (.slice (some ⟨pb,po,none⟩) phis.length pc):=ha.cell 0;have hp:=ha.lt;have hd:=Hu.out.trans (He.out.trans hs);have d1:wr.cell? ⟨pb,po+j*2+1,none⟩=some (.slice ia pins.length ic):=(hd.cell (p:=⟨pb,po+j*2+1,none⟩) hH.out).trans Hw.out;have ht:pb<wr.heap.size:=Nat.lt_of_lt_of_le hH.out hd.size;have ho:=hid hs;have hg:=hid hd;have hD:=hid hb;have HY:out.size≤500000:=by
       have h1:=Z3 YS pins m;have:=H4.out;rw[hb,Zu,List.length_append];omega
      clear ha hs hd hb;by_cases tk:m<pins.length
      ·obtain⟨zb,zo,y,rfl,Hz,hy,Hh,_⟩:=RowIn.at tu.out tk;obtain⟨fr,vl⟩:=y;have Hf:=hid (Hv.out.ins _ (List.mem_of_getElem? hy));have tD:=hid (Hh 0 (by decide));have tC:=hid (Hh 1 (by decide));have Hc:=hid Hz;obtain⟨z0,h5⟩:∃ z:ByteArray,⟨(dS fr).toArray⟩=z:=⟨_,rfl⟩
       have hX:=fun W=>YL fr W Hf.out.1
       rw[h5]at hX;have Hy:=hid hX;have tT:z0.size≤1000000:=by rw[←h5,Zu];have:=Ve fr Hf.out.1;omega
       obtain⟨z1,hL⟩:∃ z:ByteArray,⟨(dS vl).toArray⟩=z:=⟨_,rfl⟩
       have hW:=fun W=>YL vl W Hf.out.2
       rw[hL]at hW;have Hx:=hid hW;have tS:z1.size≤1000000:=by rw[←hL,Zu];have:=Ve vl Hf.out.2;omega
       obtain⟨x1,ha⟩:∃ x:ByteArray,z1.extract 1 z1.size=x:=⟨_,rfl⟩
       have tf:=ha;have tM:x1.size≤1000000:=by rw[←ha,ByteArray.size_extract];omega
       have tL:1≤z1.size:=by rw[←hL,Zu];unfold dS;simp
       have hE:=hid (show out++z0++⟨#[58]⟩++x1=⟨(A2++(pins.take (m+1)).flatMap YS).toArray⟩ from by
        rw[hD.out,←ha,←h5,←hL,Zgx,ZI YS hy];apply Zn
        rw[Zg,Zg,Zg];simp[YS])
       clear h5 hL hX hW ha hy Hh Hz;go_wp2_with fail
       clear h6 hp d1 ht;refine Zb 27 rfl (by decide +kernel) (by decide +kernel) (by decide +kernel) (by decide)
        [Is (.string out),Is (.pointer (some ⟨wo.heap.size,0,none⟩)),Is (.slice (some ⟨pb,po,none⟩) phis.length pc),Is (.int .i64 j),Is (.pointer (some ⟨pb,po+j*2,none⟩)),Is (.pointer (some ⟨pb,po+j*2+1,none⟩)),Is (.slice (some ⟨zb,zo,none⟩) pins.length ic),Is (.int .i64 m),Is (.pointer (some ⟨zb,zo+m*2,none⟩)),Is (.pointer (some ⟨zb,zo+m*2,none⟩)),Is (.int .i64 fr),Is (.string z0),Is (.string (out++z0)),Is (.string (out++z0++⟨#[58]⟩)),Is (.pointer (some ⟨wo.heap.size,0,none⟩)),Is (.slice (some ⟨pb,po,none⟩) phis.length pc),Is (.int .i64 j),Is (.pointer (some ⟨pb,po+j*2,none⟩)),Is (.pointer (some ⟨pb,po+j*2+1,none⟩)),Is (.slice (some ⟨zb,zo,none⟩) pins.length ic),Is (.int .i64 m),Is (.pointer (some ⟨zb,zo+m*2,none⟩)),Is (.pointer (some ⟨zb,zo+m*2+1,none⟩)),Is (.int .i64 vl),Is (.string z1),Is (.string x1),Is (.string (out++z0++⟨#[58]⟩++x1))]
        (by repeat (first | exact trivial | refine⟨Is.stable _,?_⟩ | refine⟨ZV.stable _ _,?_⟩ | refine⟨IsRows.stable _ _,?_⟩)) ⟨?_,?_,?_,?_,?_,?_,?_,?_,?_,?_,?_,?_,?_,?_,?_,?_,?_,?_,?_,?_,?_,?_,?_,?_,?_,?_,?_,trivial⟩ ?_
       all_goals
        intro vs w9 hs hk;try intro _
        simp only[List.take,List.drop,putAll,Act.put,Zh,Zc,Zd,Is,List.setIfInBounds_toArray,List.set_cons_zero,List.set_cons_succ,Nat.reduceAdd]at hk ⊢;try simp only[hk]
       iterate 2
        ·go_wp2
         exact⟨_,rfl,rfl,.refl _⟩
       ·have hq:=(HX.out.keep ho.out).keep hs;have hN:w9.cell? ⟨wo.heap.size,0,none⟩=some (.slice (some ⟨pb,po,none⟩) phis.length pc):=hq.cell 0;have hM:=hq.lt;go_wp2
        exact⟨_,rfl,rfl,.refl _⟩
       ·go_wp2
        exact⟨_,rfl,rfl,.refl _⟩
       iterate 2
        ·go_wp2
         exact⟨_,rfl,(by first | rfl | (show Value.pointer _=_;simp[go_sem])),.refl _⟩
       ·have hN:w9.cell? ⟨pb,po+j*2+1,none⟩=some (.slice (some ⟨zb,zo,none⟩) pins.length ic):=((hg.out.trans hs).cell (p:=⟨pb,po+j*2+1,none⟩) hH.out).trans Hw.out;have hM:pb<w9.heap.size:=Nat.lt_of_lt_of_le hH.out (hg.out.trans hs).size;go_wp2
        exact⟨_,rfl,rfl,.refl _⟩
       ·go_wp2
        exact⟨_,rfl,rfl,.refl _⟩
       iterate 2
        ·go_wp2
         exact⟨_,rfl,(by first | rfl | (show Value.pointer _=_;simp[go_sem])),.refl _⟩
       ·have hN:w9.cell? ⟨zb,zo+m*2,none⟩=some (.int .i64 fr):=((hg.out.trans hs).cell (p:=⟨zb,zo+m*2,none⟩) Hc.out).trans tD.out;have hM:zb<w9.heap.size:=Nat.lt_of_lt_of_le Hc.out (hg.out.trans hs).size;go_wp2
        exact⟨_,rfl,rfl,.refl _⟩
       ·go_wp2_with fail
        refine (Hy.out _).mono ?_;rintro e w2 ⟨rfl,hF⟩;go_wp2
        exact⟨_,rfl,rfl,hF⟩
       iterate 3
        ·go_wp2
         exact⟨_,rfl,rfl,.refl _⟩
       ·have hq:=(HX.out.keep ho.out).keep hs;have hN:w9.cell? ⟨wo.heap.size,0,none⟩=some (.slice (some ⟨pb,po,none⟩) phis.length pc):=hq.cell 0;have hM:=hq.lt;go_wp2
        exact⟨_,rfl,rfl,.refl _⟩
       ·go_wp2
        exact⟨_,rfl,rfl,.refl _⟩
       iterate 2
        ·go_wp2
         exact⟨_,rfl,(by first | rfl | (show Value.pointer _=_;simp[go_sem])),.refl _⟩
       ·have hN:w9.cell? ⟨pb,po+j*2+1,none⟩=some (.slice (some ⟨zb,zo,none⟩) pins.length ic):=((hg.out.trans hs).cell (p:=⟨pb,po+j*2+1,none⟩) hH.out).trans Hw.out;have hM:pb<w9.heap.size:=Nat.lt_of_lt_of_le hH.out (hg.out.trans hs).size;go_wp2
        exact⟨_,rfl,rfl,.refl _⟩
       ·go_wp2
        exact⟨_,rfl,rfl,.refl _⟩
       iterate 2
        ·go_wp2
         exact⟨_,rfl,(by first | rfl | (show Value.pointer _=_;simp[go_sem])),.refl _⟩
       ·have hN:w9.cell? ⟨zb,zo+m*2+1,none⟩=some (.int .i64 vl):=((hg.out.trans hs).cell (p:=⟨zb,zo+m*2+1,none⟩) Hc.out).trans tC.out;have hM:zb<w9.heap.size:=Nat.lt_of_lt_of_le Hc.out (hg.out.trans hs).size;go_wp2
        exact⟨_,rfl,rfl,.refl _⟩
       ·go_wp2_with fail
        refine (Hx.out _).mono ?_;rintro e w2 ⟨rfl,hF⟩;go_wp2
        exact⟨_,rfl,rfl,hF⟩
       iterate 2
        ·go_wp2
         exact⟨_,rfl,rfl,.refl _⟩
       ·have tn:=hid (ho.out.trans hs);clear hs hk tf;go_wp2
        go_roundw
        case rel=>exact⟨m+1,_,hE.out,rfl,by go_num,by omega,tn.out⟩
        case measure=>simp[intOf];omega
      ·obtain rfl:pins.length=m:=by omega
       rw[List.take_length]at hD;have tw:=hid (show out++⟨#[10]⟩=⟨(A1++(phis.take (j+1)).flatMap phT).toArray⟩ from by
        rw[hD.out,tt.out,←td.out];apply Zn
        rw[Zg];simp[phT,Jr,ZC.d])
       go_wp2
       go_roundw
       case rel=>exact⟨j+1,_,tw.out,rfl,by go_num,by omega,ho.out⟩
       case measure=>simp[intOf];omega
    ·obtain rfl:phis.length=j:=by omega
     rw[List.take_length]at Hg;obtain⟨A3,Hb⟩:∃ A3,A1++phis.flatMap phT=A3:=⟨_,rfl⟩
     have H0:A3.length=A1.length+(phis.flatMap phT).length:=by rw[←Hb,List.length_append]
     rw[Hb]at Hg;have tK:=hid Hb;have hl:=zH (A3.length+((ins.flatMap inT).length+((Yi (Zt.d ⟨kd,args,.slice aa args.length ac,tgt,.slice ta tgt.length tc,imm⟩)).length+1))≤500000) (by have:=hK.out;omega);clear Hb H0 hK ha hs;go_wp2_with fail
     clear h6 hp
     go_loopw [3,8] (fun so io wr=>∃ (j:Nat) (out:ByteArray),out=⟨(A3++(ins.take j).flatMap inT).toArray⟩∧so=.string out∧io=.int .i64 j∧j≤ins.length∧Since wx wr) (fun _ io _=>ins.length-(intOf io).toNat)
     case atStart=>exact⟨0,_,by rw[Hg.out];simp,rfl,rfl,Nat.zero_le _,ho.out⟩
     case round =>
      obtain⟨j,o3,hb,rfl,rfl,hj,hs⟩:=hrel;have ha:=HX.out.keep hs;have Hi:wr.cell? ⟨wo.heap.size,1,none⟩=some (.slice na ins.length nc):=ha.cell 1;have hp:=ha.lt;have H3:=hid hs;have hD:=hid hb;have HY:o3.size≤500000:=by
       have h1:=Z3 inT ins j;have:=hl.out;rw[hb,Zu,List.length_append];omega
      have hd:=Hu.out.trans (He.out.trans hs);have hg:=hid hd;clear hb;by_cases Hn:j<ins.length
      ·obtain⟨nb,no,x,rfl,hz,Ha,hG,hv⟩:=RowIn.at tB.out Hn;have tx:=hid (Hs.out.ins x (List.mem_of_getElem? Ha));have Hm:=Z3 inT ins (j+1);rw[ZI inT Ha,List.length_append]at Hm;have tz:=hid (ZI inT Ha);obtain⟨op,dst,two,iargs,iav,iimm⟩:=x;have tA:=hid hv
       replace hv:Zm w iav iargs:=hv
       obtain⟨ia,ic,e⟩:=Zp hv;obtain rfl:iav=.slice ia iargs.length ic:=e;have Ho:inT ⟨op,dst,two,iargs,.slice ia iargs.length ic,iimm⟩=ZM (FIns.d ⟨op,dst,two,iargs,.slice ia iargs.length ic,iimm⟩)++[10]:=rfl;rw[Ho,List.length_append]at Hm;have HZ:(ZM (FIns.d ⟨op,dst,two,iargs,.slice ia iargs.length ic,iimm⟩)).length≤500000:=by have:=hl.out;omega
       have d0:wr.cell? ⟨nb,no+j*5,none⟩=some (.int .i64 op):=(hd.cell (p:=⟨nb,no+j*5+0,none⟩) hz).trans (hG 0 (by decide));have d1:wr.cell? ⟨nb,no+j*5+1,none⟩=some (.int .i64 dst):=(hd.cell (p:=⟨nb,no+j*5+1,none⟩) hz).trans (hG 1 (by decide));have d2:wr.cell? ⟨nb,no+j*5+2,none⟩=some (.int .i64 two):=(hd.cell (p:=⟨nb,no+j*5+2,none⟩) hz).trans (hG 2 (by decide));have d3:wr.cell? ⟨nb,no+j*5+3,none⟩=some (.slice ia iargs.length ic):=(hd.cell (p:=⟨nb,no+j*5+3,none⟩) hz).trans (hG 3 (by decide));have d4:wr.cell? ⟨nb,no+j*5+4,none⟩=some (.int .i32 iimm):=(hd.cell (p:=⟨nb,no+j*5+4,none⟩) hz).trans (hG 4 (by decide));have ht:nb<wr.heap.size:=Nat.lt_of_lt_of_le hz hd.size;obtain⟨z6,h3⟩:∃ z:ByteArray,⟨(ZM (FIns.d ⟨op,dst,two,iargs,.slice ia iargs.length ic,iimm⟩)).toArray⟩=z:=⟨_,rfl⟩
       have hU:=Zde ⟨op,dst,two,iargs,.slice ia iargs.length ic,iimm⟩ wr (Wd.keep _ _ _ tA.out hg.out) tx.out (by omega);rw[h3]at hU;have H8:=hid hU;have tQ:z6.size≤1000000:=by rw[←h3,Zu];omega
       have hE:=hid (show o3++z6++⟨#[10]⟩=⟨(A3++(ins.take (j+1)).flatMap inT).toArray⟩ from by
        rw[hD.out,←h3,tz.out,Ho];apply Zn
        rw[Zg,Zg];simp)
       clear h3 hU Ho HZ Hm hG Ha hv hs hd ha hz;go_wp2_with fail
       refine H8.out.mono ?_;rintro e w3 ⟨rfl,he⟩;have Ht:=hid (H3.out.trans he);clear he Hi hp d0 d1 d2 d3 d4 ht;go_wp2
       go_roundw
       case rel=>exact⟨j+1,_,hE.out,rfl,by go_num,by omega,Ht.out⟩
       case measure=>simp[intOf];omega
      ·obtain rfl:ins.length=j:=by omega
       rw[List.take_length]at hD;have HW:wr.cell? ⟨wo.heap.size,2,none⟩=some (.int .i64 kd):=ha.cell 2;have HV:wr.cell? ⟨wo.heap.size,3,none⟩=some (.slice aa args.length ac):=ha.cell 3;have HU:wr.cell? ⟨wo.heap.size,4,none⟩=some (.slice ta tgt.length tc):=ha.cell 4;have HS:wr.cell? ⟨wo.heap.size,5,none⟩=some (.int .i32 imm):=ha.cell 5;obtain⟨z5,h4⟩:∃ z:ByteArray,⟨(Yi (Zt.d ⟨kd,args,.slice aa args.length ac,tgt,.slice ta tgt.length tc,imm⟩)).toArray⟩=z:=⟨_,rfl⟩
       have hV:=Zcl ⟨kd,args,.slice aa args.length ac,tgt,.slice ta tgt.length tc,imm⟩ wr (XM.keep ⟨tI.out,tm.out⟩ hg.out) Hs.out.term (by have:=hl.out;omega);rw[h4]at hV;have H9:=hid hV;have tR:z5.size≤1000000:=by rw[←h4,Zu];have:=hl.out;omega
       have hE:=hid (show o3++z5++⟨#[10]⟩=⟨(headS params++blksS (blocks.map FBlk.d) (k+1)).toArray⟩ from by
        rw[hD.out,←h4,HJ.out,Jg,←List.append_assoc,HA.out,←List.append_assoc,tJ.out,←List.append_assoc,tK.out];apply Zn
        rw[Zg,Zg];simp)
       have tp:=hid (ts.out.trans (He.out.trans hs));clear h4 hV hs hd ha;go_wp2_with fail
       refine H9.out.mono ?_;rintro e w3 ⟨rfl,he⟩;have Ht:=hid (tp.out.trans he);clear he Hi HW HV HU HS hp;go_wp2
       go_roundw
       case rel=>exact⟨k+1,_,hE.out,rfl,by go_num,by omega,Ht.out⟩
       case measure=>simp[intOf];omega
  ·obtain rfl:blocks.length=k:=by omega
   have tr:=hid (HG.out.trans HE.out);go_wp2
   go_ret
   exact⟨by rw[HO.out];rfl,tr.out⟩
end Go.Proofs.YtmhojfpidedjeaaGreatDoor
