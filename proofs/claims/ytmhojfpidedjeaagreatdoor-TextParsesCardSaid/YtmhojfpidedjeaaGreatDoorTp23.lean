import Derived.Test.YtmhojfpidedjeaaGreatDoorTp22
namespace Go.Proofs.YtmhojfpidedjeaaGreatDoor
open Go.RowKit Go.Lib
set_option linter.unusedVariables false
set_option maxHeartbeats 8000000
set_option maxRecDepth 100000
def pair3 (x:Int × Int):Bs:=d3 x.1++58::d3 x.2
def Xi (p:ZdM):Bs:=[112,104,105,32]++(d3 p.dst++p.ins.flatMap pair3)
def in3 (x:Zaq):Bs:=59::(d3 x.op++(d3 x.dst++(d3 x.two++(Wx x.args++d3 x.imm))))
def tm3 (t:Kt):Bs:=124::(d3 t.kd++(Wx t.ar++(Wx t.tg++d3 t.im)))
def bl3 (b:Y1):Bs:=10::(b.phis.flatMap Xi++(b.ins.flatMap in3++tm3 b.term))
def VH (f:DFn):Bs:=d3 f.params++f.blocks.flatMap bl3
def ZdE (l:List Int):Prop:=(∀ x∈l,Wm x)∧l.length≤1000000
structure ZhF (x:FIns):Prop where
 op:Wm x.op
 dst:Wm x.dst
 two:Wm x.two
 args:ZdE x.args
 imm:In32W x.imm
structure Zhk (t:Zt):Prop where
 kd:Wm t.kind
 ar:ZdE t.args
 tg:ZdE t.to
 imm:In32W t.imm
structure ZhJ (b:FBlk):Prop where
 phis:∀ p∈b.phis,Wm p.dst∧∀ x∈p.ins,Wm x.1∧Wm x.2
 ins:∀ i∈b.ins,ZhF i
 term:Zhk b.term
structure Fn3 (f:FnV):Prop where
 params:Wm f.params
 blocks:∀ b∈f.blocks,ZhJ b
theorem YN {x : Int} (h:In32W x):Wm x:=by unfold In32W at h;unfold Wm;omega
theorem Wr:∀ (l:List Int),(∀ x∈l,Wm x)→(l.flatMap d3).length≤22*l.length
 | [],_=>Nat.le_refl _
 | x::r,h=>by
  rw[List.flatMap_cons,List.length_append,List.length_cons]
  have:=Xt x (h x (by simp))
  have:=Wr r (fun y hy=>h y (by simp[hy]))
  omega
theorem ZaI (f:FnV) (w:World) (hf:FnIn w f) (hr:Fn3 f) (hn:(VH f.d).length≤4000000000000000000) :
  Calls Tryz.prog 40 #[fv f] w (Xl ⟨(VH f.d).toArray⟩ w):=by
 obtain⟨params,blocks,bv⟩:=f;obtain⟨ba,bc,e,tu⟩:=RowIn.shape hf;obtain rfl:bv=.slice ba blocks.length bc:=e;unfold maxLen at tu;have HF:=hid hf;have HR:=hid hr;unfold VH at hn ⊢;simp only[FnV.d,List.length_append]at hn ⊢;have HT:Hid (∀ k,(d3 params).length+(((blocks.map FBlk.d).take k).flatMap bl3).length≤4000000000000000000):=hid (by
  intro k;have h1:=Z3 bl3 (blocks.map FBlk.d) k;omega)
 have HP:=hid ((Since.refl w).alloc (.cells #[.int .i64 params,.slice ba blocks.length bc] 24));have HU:=hid (HeapIs.new w #[.int .i64 params,.slice ba blocks.length bc] 24);clear hf hr hn;unfold fv;dsimp only;obtain⟨z9,h3⟩:∃ z:ByteArray,⟨(d3 params).toArray⟩=z:=⟨_,rfl⟩
 have hQ:=fun W=>YG params W HR.out.params
 rw[h3]at hQ;have H5:=hid hQ;have tV:z9.size≤1000000:=by rw[←h3,Zu];have:=Xt params HR.out.params;omega
 clear hQ;have HH:=hid h3;go_enter Tryz.func40,Tryz.ntmps40
 clear h3;go_wp2_with fail
 refine (H5.out _).mono ?_;rintro e w1 ⟨rfl,Hw⟩;have tR:=hid (HU.out.keep Hw);have HN:=hid (HP.out.trans Hw);clear Hw HU HP;go_wp2_with fail
 go_loopw [3,4] (fun so io wr=>∃ (k:Nat) (out:ByteArray),out=⟨(d3 params++((blocks.map FBlk.d).take k).flatMap bl3).toArray⟩∧so=.string out∧io=.int .i64 k∧k≤blocks.length∧Since w1 wr) (fun _ io _=>blocks.length-(intOf io).toNat)
 case atStart=>exact⟨0,_,by rw[←HH.out];simp,rfl,rfl,Nat.zero_le _,.refl _⟩
 case round =>
  obtain⟨k,out,hb,rfl,rfl,hk,hs⟩:=hrel;have Hm:=tR.out.keep hs;have tv:wr.cell? ⟨w.heap.size,1,none⟩=some (.slice ba blocks.length bc):=Hm.cell 1;have H0:=Hm.lt;have tz:=hid hs;have HO:=hid hb;have Ta:out.size≤4000000000000000000:=by rw[hb,Zu,List.length_append];exact HT.out k
  by_cases tt:k<blocks.length
  ·obtain⟨rb,off,x,rfl,hz,hx,hc,HY⟩:=RowIn.at HF.out tt;have HD:=hid (HR.out.blocks x (List.mem_of_getElem? hx));have HQ:=hid (ZI bl3 (ZbJ FBlk.d hx));have Hl:=HT.out (k+1);rw[HQ.out,List.length_append]at Hl;obtain⟨A,hA⟩:∃ A,d3 params++((blocks.map FBlk.d).take k).flatMap bl3=A:=⟨_,rfl⟩
   rw[←Nat.add_assoc,←List.length_append,hA]at Hl;rw[hA]at HO;obtain⟨phis,phv,ins,inv,⟨kd,args,argsv,tgt,tov,imm⟩⟩:=x;obtain⟨hv,hP,hJ,Hv⟩:=HY;obtain⟨pa,pc,e,tp⟩:=RowIn.shape hv;obtain rfl:phv=.slice pa phis.length pc:=e;obtain⟨na,nc,e,tq⟩:=RowIn.shape hP;obtain rfl:inv=.slice na ins.length nc:=e;obtain⟨aa,ac,e⟩:=Zp hJ;obtain rfl:argsv=.slice aa args.length ac:=e;obtain⟨ta,tc,e⟩:=Zp Hv;obtain rfl:tov=.slice ta tgt.length tc:=e;unfold maxLen at tp tq;have hu:=HN.out.trans hs;have c0:wr.cell? ⟨rb,off+k*6,none⟩=some (.slice pa phis.length pc):=(hu.cell (p:=⟨rb,off+k*6+0,none⟩) hz).trans (hc 0 (by decide));have c1:wr.cell? ⟨rb,off+k*6+1,none⟩=some (.slice na ins.length nc):=(hu.cell (p:=⟨rb,off+k*6+1,none⟩) hz).trans (hc 1 (by decide));have c2:wr.cell? ⟨rb,off+k*6+2,none⟩=some (.int .i64 kd):=(hu.cell (p:=⟨rb,off+k*6+2,none⟩) hz).trans (hc 2 (by decide));have c3:wr.cell? ⟨rb,off+k*6+3,none⟩=some (.slice aa args.length ac):=(hu.cell (p:=⟨rb,off+k*6+3,none⟩) hz).trans (hc 3 (by decide))
   have c4:wr.cell? ⟨rb,off+k*6+4,none⟩=some (.slice ta tgt.length tc):=(hu.cell (p:=⟨rb,off+k*6+4,none⟩) hz).trans (hc 4 (by decide));have c5:wr.cell? ⟨rb,off+k*6+5,none⟩=some (.int .i32 imm):=(hu.cell (p:=⟨rb,off+k*6+5,none⟩) hz).trans (hc 5 (by decide));have hN:rb<wr.heap.size:=Nat.lt_of_lt_of_le hz hu.size;have tF:=hid hv;have tN:=hid hP;have tS:=hid hJ;have tx:=hid Hv;have HA:=hid hA;have HS:=hid (show A.length+(1+((phis.flatMap (fun p:ZC=>Xi p.d)).length+((ins.flatMap (fun i:FIns=>in3 i.d)).length+(tm3 (Zt.d ⟨kd,args,.slice aa args.length ac,tgt,.slice ta tgt.length tc,imm⟩)).length)))≤4000000000000000000 from by
    have e1:(bl3 (FBlk.d ⟨phis,.slice pa phis.length pc,ins,.slice na ins.length nc,⟨kd,args,.slice aa args.length ac,tgt,.slice ta tgt.length tc,imm⟩⟩)).length=1+((phis.flatMap (fun p:ZC=>Xi p.d)).length+((ins.flatMap (fun i:FIns=>in3 i.d)).length+(tm3 (Zt.d ⟨kd,args,.slice aa args.length ac,tgt,.slice ta tgt.length tc,imm⟩)).length)):=by
     unfold bl3;simp[FBlk.d,List.flatMap_map];omega
    rw[←e1];exact Hl)
   have HX:=hid (HeapIs.new wr #[.slice pa phis.length pc,.slice na ins.length nc,.int .i64 kd,.slice aa args.length ac,.slice ta tgt.length tc,.int .i32 imm] 57);obtain⟨wo,tn⟩:∃ z,z=wr:=⟨_,rfl⟩
   subst tn;have HE:=hid hu;have tC:=hid hs;have hE:out++⟨#[10]⟩=⟨(A++[10]).toArray⟩:=by rw[HO.out];apply Zn;rw[Zg]
   have HW:=hid hE;clear hs hu Hm hv hP hJ Hv hA hc hx Hl hz hE hb;go_wp2_with fail
   clear c0 c1 c2 c3 c4 c5 hN tv H0;rw[HW.out];obtain⟨wx,Hu⟩:∃ z,wo.alloc (.cells #[.slice pa phis.length pc,.slice na ins.length nc,.int .i64 kd,.slice aa args.length ac,.slice ta tgt.length tc,.int .i32 imm] 57)=z:=⟨_,rfl⟩
   rw[Hu]at HX ⊢;have Hp:=zH (Since wo wx) (by rw[←Hu];exact (Since.refl _).alloc _)
   clear Hu;obtain⟨A1,hE⟩:∃ A1,A++[10]=A1:=⟨_,rfl⟩
   have H3:A1.length=A.length+1:=by rw[←hE,List.length_append];rfl
   have hL:=zH (A1.length+((phis.flatMap (fun p:ZC=>Xi p.d)).length+((ins.flatMap (fun i:FIns=>in3 i.d)).length+(tm3 (Zt.d ⟨kd,args,.slice aa args.length ac,tgt,.slice ta tgt.length tc,imm⟩)).length))≤4000000000000000000) (by have:=HS.out;omega);rw[hE];have tT:=hid hE;clear hE H3 HS HW
   go_loopw [3,6] (fun so io wr=>∃ (j:Nat) (out:ByteArray),out=⟨(A1++(phis.take j).flatMap (fun p:ZC=>Xi p.d)).toArray⟩∧so=.string out∧io=.int .i64 j∧j≤phis.length∧Since wx wr) (fun _ io _=>phis.length-(intOf io).toNat)
   case atStart=>exact⟨0,_,by simp,rfl,rfl,Nat.zero_le _,.refl _⟩
   case round =>
    obtain⟨j,o2,hb,rfl,rfl,hj,hs⟩:=hrel;have ho:=HX.out.keep hs;have Hc:wr.cell? ⟨wo.heap.size,0,none⟩=some (.slice pa phis.length pc):=ho.cell 0;have hB:=ho.lt;have he:=hid hs;have Hr:=hid hb;have t8:o2.size≤4000000000000000000:=by
     have h1:=Z3 (fun p:ZC=>Xi p.d) phis j;have:=hL.out;rw[hb,Zu,List.length_append];omega
    clear hb;by_cases Hz:j<phis.length
    ·obtain⟨pb,po,p,rfl,Hk,Hi,Hx,hC⟩:=RowIn.at tF.out Hz;have HG:=hid (HD.out.phis p (List.mem_of_getElem? Hi));have Hj:=Z3 (fun p:ZC=>Xi p.d) phis (j+1);rw[ZI (fun p:ZC=>Xi p.d) Hi,List.length_append]at Hj;have tD:=hid (ZI (fun p:ZC=>Xi p.d) Hi);obtain⟨dst,pins,pinv⟩:=p
     replace hC:YI w pinv pins:=hC
     obtain⟨ia,ic,e,tr⟩:=RowIn.shape hC;obtain rfl:pinv=.slice ia pins.length ic:=e;unfold maxLen at tr;have hv:Xi (ZC.d ⟨dst,pins,.slice ia pins.length ic⟩)=[112,104,105,32]++(d3 dst++pins.flatMap pair3):=rfl;rw[hv]at Hj;simp only[List.length_append,List.length_cons,List.length_nil]at Hj;have h2:=zH ((A1++(phis.take j).flatMap (fun p:ZC=>Xi p.d)).length+(4+((d3 dst).length+(pins.flatMap pair3).length))≤4000000000000000000) (by have:=hL.out;rw[List.length_append];omega);have hp:=HE.out.trans (Hp.out.trans hs);have d0:wr.cell? ⟨pb,po+j*2,none⟩=some (.int .i64 dst):=(hp.cell (p:=⟨pb,po+j*2+0,none⟩) Hk).trans (Hx 0 (by decide));have hN:pb<wr.heap.size:=Nat.lt_of_lt_of_le Hk hp.size;have HI:=hid (Hx 1 (by decide));have hI:=hid Hk;have tE:=hid hC;obtain⟨z7,h4⟩:∃ z:ByteArray,⟨(d3 dst).toArray⟩=z:=⟨_,rfl⟩
     have hR:=fun W=>YG dst W HG.out.1
     rw[h4]at hR;have H6:=hid hR;have tW:z7.size≤1000000:=by rw[←h4,Zu];have:=Xt dst HG.out.1;omega
     clear hR;have HM:o2++⟨#[112,104,105,32]⟩++z7=⟨((A1++(phis.take j).flatMap (fun p:ZC=>Xi p.d))++([112,104,105,32]++d3 dst)).toArray⟩:=by
      rw[Hr.out,←h4];apply Zn;rw[Zg,Zg];simp
     have HV:=hid HM;obtain⟨A2,hK⟩:∃ A2,(A1++(phis.take j).flatMap (fun p:ZC=>Xi p.d))++([112,104,105,32]++d3 dst)=A2:=⟨_,rfl⟩
     have H2:A2.length=(A1++(phis.take j).flatMap (fun p:ZC=>Xi p.d)).length+(4+(d3 dst).length):=by rw[←hK];simp only[List.length_append,List.length_cons,List.length_nil]
     rw[hK]at HV;have tm:=hid hK;have H4:=zH (A2.length+(pins.flatMap pair3).length≤4000000000000000000) (by have:=h2.out;omega);clear h4 HM hK H2 Hx hC Hi hv Hj hs hp Hk;go_wp2_with fail
     refine (H6.out _).mono ?_;rintro e w3 ⟨rfl,HK⟩;clear Hc hB d0 hN;have tA:=hid (he.out.trans HK);clear HK ho he;go_wp2_with fail
     go_loopw [3,7] (fun so io wr=>∃ (m:Nat) (out:ByteArray),out=⟨(A2++(pins.take m).flatMap pair3).toArray⟩∧so=.string out∧io=.int .i64 m∧m≤pins.length∧Since wx wr) (fun _ io _=>pins.length-(intOf io).toNat)
     case atStart=>exact⟨0,_,by rw[List.take_zero,List.flatMap_nil,List.append_nil];exact HV.out,rfl,rfl,Nat.zero_le _,tA.out⟩
     case round =>
      obtain⟨m,out,hb,rfl,rfl,hm,hs⟩:=hrel;have ho:=HX.out.keep hs;have Hc:wr.cell? ⟨wo.heap.size,0,none⟩=some (.slice (some ⟨pb,po,none⟩) phis.length pc):=ho.cell 0;have hB:=ho.lt;have hp:=HE.out.trans (Hp.out.trans hs);have d1:wr.cell? ⟨pb,po+j*2+1,none⟩=some (.slice ia pins.length ic):=(hp.cell (p:=⟨pb,po+j*2+1,none⟩) hI.out).trans HI.out;have hN:pb<wr.heap.size:=Nat.lt_of_lt_of_le hI.out hp.size;have he:=hid hs;have ha:=hid hp;have hF:=hid hb;have HZ:out.size≤4000000000000000000:=by
       have h1:=Z3 pair3 pins m;have:=H4.out;rw[hb,Zu,List.length_append];omega
      clear ho hs hp hb;by_cases ts:m<pins.length
      ·obtain⟨zb,zo,y,rfl,HJ,hy,Hs,_⟩:=RowIn.at tE.out ts;obtain⟨fr,vl⟩:=y;have Hq:=hid (HG.out.2 _ (List.mem_of_getElem? hy));have tQ:=hid (Hs 0 (by decide));have tP:=hid (Hs 1 (by decide));have Ho:=hid HJ;obtain⟨z0,h6⟩:∃ z:ByteArray,⟨(d3 fr).toArray⟩=z:=⟨_,rfl⟩
       have hT:=fun W=>YG fr W Hq.out.1
       rw[h6]at hT;have H8:=hid hT;have tY:z0.size≤1000000:=by rw[←h6,Zu];have:=Xt fr Hq.out.1;omega
       clear hT;obtain⟨z1,h5⟩:∃ z:ByteArray,⟨(d3 vl).toArray⟩=z:=⟨_,rfl⟩
       have hS:=fun W=>YG vl W Hq.out.2
       rw[h5]at hS;have H7:=hid hS;have tX:z1.size≤1000000:=by rw[←h5,Zu];have:=Xt vl Hq.out.2;omega
       clear hS;have hG:=hid (show out++z0++⟨#[58]⟩++z1=⟨(A2++(pins.take (m+1)).flatMap pair3).toArray⟩ from by
        rw[hF.out,←h6,←h5,ZI pair3 hy];apply Zn
        rw[Zg,Zg,Zg];simp[pair3])
       clear h6 h5 hy Hs HJ;go_wp2_with fail
       clear Hc hB d1 hN;refine Zb 26 rfl (by decide +kernel) (by decide +kernel) (by decide +kernel) (by decide)
        [Is (.string out),Is (.pointer (some ⟨wo.heap.size,0,none⟩)),Is (.slice (some ⟨pb,po,none⟩) phis.length pc),Is (.int .i64 j),Is (.pointer (some ⟨pb,po+j*2,none⟩)),Is (.pointer (some ⟨pb,po+j*2+1,none⟩)),Is (.slice (some ⟨zb,zo,none⟩) pins.length ic),Is (.int .i64 m),Is (.pointer (some ⟨zb,zo+m*2,none⟩)),Is (.pointer (some ⟨zb,zo+m*2,none⟩)),Is (.int .i64 fr),Is (.string z0),Is (.string (out++z0)),Is (.string (out++z0++⟨#[58]⟩)),Is (.pointer (some ⟨wo.heap.size,0,none⟩)),Is (.slice (some ⟨pb,po,none⟩) phis.length pc),Is (.int .i64 j),Is (.pointer (some ⟨pb,po+j*2,none⟩)),Is (.pointer (some ⟨pb,po+j*2+1,none⟩)),Is (.slice (some ⟨zb,zo,none⟩) pins.length ic),Is (.int .i64 m),Is (.pointer (some ⟨zb,zo+m*2,none⟩)),Is (.pointer (some ⟨zb,zo+m*2+1,none⟩)),Is (.int .i64 vl),Is (.string z1),Is (.string (out++z0++⟨#[58]⟩++z1))]
        (by repeat (first | exact trivial | refine⟨Is.stable _,?_⟩ | refine⟨ZV.stable _ _,?_⟩ | refine⟨IsRows.stable _ _,?_⟩)) ⟨?_,?_,?_,?_,?_,?_,?_,?_,?_,?_,?_,?_,?_,?_,?_,?_,?_,?_,?_,?_,?_,?_,?_,?_,?_,?_,trivial⟩ ?_
       all_goals
        intro vs w9 hs hk;try intro _
        simp only[List.take,List.drop,putAll,Act.put,Zh,Zc,Zd,Is,List.setIfInBounds_toArray,List.set_cons_zero,List.set_cons_succ,Nat.reduceAdd]at hk ⊢;try simp only[hk]
       iterate 2
        ·go_wp2
         exact⟨_,rfl,rfl,.refl _⟩
       ·have hq:=(HX.out.keep he.out).keep hs;have hh:w9.cell? ⟨wo.heap.size,0,none⟩=some (.slice (some ⟨pb,po,none⟩) phis.length pc):=hq.cell 0;have hg:=hq.lt;go_wp2
        exact⟨_,rfl,rfl,.refl _⟩
       ·go_wp2
        exact⟨_,rfl,rfl,.refl _⟩
       iterate 2
        ·go_wp2
         exact⟨_,rfl,(by first | rfl | (show Value.pointer _=_;simp[go_sem])),.refl _⟩
       ·have hh:w9.cell? ⟨pb,po+j*2+1,none⟩=some (.slice (some ⟨zb,zo,none⟩) pins.length ic):=((ha.out.trans hs).cell (p:=⟨pb,po+j*2+1,none⟩) hI.out).trans HI.out;have hg:pb<w9.heap.size:=Nat.lt_of_lt_of_le hI.out (ha.out.trans hs).size;go_wp2
        exact⟨_,rfl,rfl,.refl _⟩
       ·go_wp2
        exact⟨_,rfl,rfl,.refl _⟩
       iterate 2
        ·go_wp2
         exact⟨_,rfl,(by first | rfl | (show Value.pointer _=_;simp[go_sem])),.refl _⟩
       ·have hh:w9.cell? ⟨zb,zo+m*2,none⟩=some (.int .i64 fr):=((ha.out.trans hs).cell (p:=⟨zb,zo+m*2,none⟩) Ho.out).trans tQ.out;have hg:zb<w9.heap.size:=Nat.lt_of_lt_of_le Ho.out (ha.out.trans hs).size;go_wp2
        exact⟨_,rfl,rfl,.refl _⟩
       ·go_wp2_with fail
        refine (H8.out _).mono ?_;rintro e w2 ⟨rfl,hd⟩;go_wp2
        exact⟨_,rfl,rfl,hd⟩
       iterate 3
        ·go_wp2
         exact⟨_,rfl,rfl,.refl _⟩
       ·have hq:=(HX.out.keep he.out).keep hs;have hh:w9.cell? ⟨wo.heap.size,0,none⟩=some (.slice (some ⟨pb,po,none⟩) phis.length pc):=hq.cell 0;have hg:=hq.lt;go_wp2
        exact⟨_,rfl,rfl,.refl _⟩
       ·go_wp2
        exact⟨_,rfl,rfl,.refl _⟩
       iterate 2
        ·go_wp2
         exact⟨_,rfl,(by first | rfl | (show Value.pointer _=_;simp[go_sem])),.refl _⟩
       ·have hh:w9.cell? ⟨pb,po+j*2+1,none⟩=some (.slice (some ⟨zb,zo,none⟩) pins.length ic):=((ha.out.trans hs).cell (p:=⟨pb,po+j*2+1,none⟩) hI.out).trans HI.out;have hg:pb<w9.heap.size:=Nat.lt_of_lt_of_le hI.out (ha.out.trans hs).size;go_wp2
        exact⟨_,rfl,rfl,.refl _⟩
       ·go_wp2
        exact⟨_,rfl,rfl,.refl _⟩
       iterate 2
        ·go_wp2
         exact⟨_,rfl,(by first | rfl | (show Value.pointer _=_;simp[go_sem])),.refl _⟩
       ·have hh:w9.cell? ⟨zb,zo+m*2+1,none⟩=some (.int .i64 vl):=((ha.out.trans hs).cell (p:=⟨zb,zo+m*2+1,none⟩) Ho.out).trans tP.out;have hg:zb<w9.heap.size:=Nat.lt_of_lt_of_le Ho.out (ha.out.trans hs).size;go_wp2
        exact⟨_,rfl,rfl,.refl _⟩
       ·go_wp2_with fail
        refine (H7.out _).mono ?_;rintro e w2 ⟨rfl,hd⟩;go_wp2
        exact⟨_,rfl,rfl,hd⟩
       ·go_wp2
        exact⟨_,rfl,rfl,.refl _⟩
       ·have hO:=hid (he.out.trans hs);clear hs hk;go_wp2
        go_roundw
        case rel=>exact⟨m+1,_,hG.out,rfl,by go_num,by omega,hO.out⟩
        case measure=>simp[intOf];omega
      ·obtain rfl:pins.length=m:=by omega
       rw[List.take_length]at hF;have tG:=hid (show out=⟨(A1++(phis.take (j+1)).flatMap (fun p:ZC=>Xi p.d)).toArray⟩ from by
        rw[hF.out,tD.out,←tm.out];apply Zn
        simp[Xi,ZC.d])
       go_wp2
       go_roundw
       case rel=>exact⟨j+1,_,tG.out,rfl,by go_num,by omega,he.out⟩
       case measure=>simp[intOf];omega
    ·obtain rfl:phis.length=j:=by omega
     rw[List.take_length]at Hr;obtain⟨A3,Hn⟩:∃ A3,A1++phis.flatMap (fun p:ZC=>Xi p.d)=A3:=⟨_,rfl⟩
     have H1:A3.length=A1.length+(phis.flatMap (fun p:ZC=>Xi p.d)).length:=by rw[←Hn,List.length_append]
     rw[Hn]at Hr;have tU:=hid Hn;have h2:=zH (A3.length+((ins.flatMap (fun i:FIns=>in3 i.d)).length+(tm3 (Zt.d ⟨kd,args,.slice aa args.length ac,tgt,.slice ta tgt.length tc,imm⟩)).length)≤4000000000000000000) (by have:=hL.out;omega);clear Hn H1 hL ho hs;go_wp2_with fail
     clear Hc hB
     go_loopw [3,8] (fun so io wr=>∃ (j:Nat) (out:ByteArray),out=⟨(A3++(ins.take j).flatMap (fun i:FIns=>in3 i.d)).toArray⟩∧so=.string out∧io=.int .i64 j∧j≤ins.length∧Since wx wr) (fun _ io _=>ins.length-(intOf io).toNat)
     case atStart=>exact⟨0,_,by rw[Hr.out];simp,rfl,rfl,Nat.zero_le _,he.out⟩
     case round =>
      obtain⟨j,o3,hb,rfl,rfl,hj,hs⟩:=hrel;have ho:=HX.out.keep hs;have Ht:wr.cell? ⟨wo.heap.size,1,none⟩=some (.slice na ins.length nc):=ho.cell 1;have hB:=ho.lt;have he:=hid hs;have hF:=hid hb;have HZ:o3.size≤4000000000000000000:=by
       have h1:=Z3 (fun i:FIns=>in3 i.d) ins j;have:=h2.out;rw[hb,Zu,List.length_append];omega
      have hp:=HE.out.trans (Hp.out.trans hs);have ha:=hid hp;clear hb;by_cases Hz:j<ins.length
      ·obtain⟨nb,no,x,rfl,HL,Hy,hH,hD⟩:=RowIn.at tN.out Hz;have hl:=hid (HD.out.ins x (List.mem_of_getElem? Hy));have tH:=hid (ZI (fun i:FIns=>in3 i.d) Hy);obtain⟨op,dst,two,iargs,iav,iimm⟩:=x
       replace hD:Zm w iav iargs:=hD
       obtain⟨ia,ic,e⟩:=Zp hD;obtain rfl:iav=.slice ia iargs.length ic:=e;have tM:=hid (hH 0 (by decide));have tL:=hid (hH 1 (by decide));have tK:=hid (hH 2 (by decide));have tJ:=hid (hH 3 (by decide));have tI:=hid (hH 4 (by decide));have ht:=hid HL;have HC:=hl.out.imm.1;have HB:=hl.out.imm.2;dsimp only at HC HB;have tw:iargs.length≤1000000:=hl.out.args.2;obtain⟨y0,Hb⟩:∃ z:ByteArray,⟨(d3 op).toArray⟩=z:=⟨_,rfl⟩
       have hY:=fun W=>YG op W hl.out.op
       rw[Hb]at hY;have th:=hid hY;have t3:y0.size≤1000000:=by rw[←Hb,Zu];have:=Xt op hl.out.op;omega
       clear hY;obtain⟨y1,Ha⟩:∃ z:ByteArray,⟨(d3 dst).toArray⟩=z:=⟨_,rfl⟩
       have hX:=fun W=>YG dst W hl.out.dst
       rw[Ha]at hX;have tf:=hid hX;have t2:y1.size≤1000000:=by rw[←Ha,Zu];have:=Xt dst hl.out.dst;omega
       clear hX;obtain⟨y2,h9⟩:∃ z:ByteArray,⟨(d3 two).toArray⟩=z:=⟨_,rfl⟩
       have hV:=fun W=>YG two W hl.out.two
       rw[h9]at hV;have te:=hid hV;have t1:y2.size≤1000000:=by rw[←h9,Zu];have:=Xt two hl.out.two;omega
       clear hV;obtain⟨y3,h8⟩:∃ z:ByteArray,⟨(Wx iargs).toArray⟩=z:=⟨_,rfl⟩
       have td:=hid (fun (W:World) (hW:Since w W)=>(show Calls Tryz.prog 82 #[.slice ia iargs.length ic] W (Xl y3 W) from by rw[←h8];exact KX _ iargs W (ZN.keep hD hW) hl.out.args.1 (by have:=Wr iargs hl.out.args.1;have:=hl.out.args.2;omega)))
       have t0:y3.size≤40000000:=by rw[←h8,Zu];have:=Wr iargs hl.out.args.1;have:=hl.out.args.2;unfold Wx;simp only[List.length_cons,List.length_append,List.length_nil];omega
       obtain⟨y4,h7⟩:∃ z:ByteArray,⟨(d3 iimm).toArray⟩=z:=⟨_,rfl⟩
       have hU:=fun W=>YG iimm W (YN hl.out.imm)
       rw[h7]at hU;have H9:=hid hU;have tZ:y4.size≤1000000:=by rw[←h7,Zu];have:=Xt iimm (YN hl.out.imm);omega
       clear hU;have hG:=hid (show o3++⟨#[59]⟩++y0++y1++y2++y3++y4=⟨(A3++(ins.take (j+1)).flatMap (fun i:FIns=>in3 i.d)).toArray⟩ from by
        rw[hF.out,←Hb,←Ha,←h9,←h8,←h7,tH.out];apply Zn
        repeat rw[Zg]
        simp[in3,FIns.d])
       clear Hb Ha h9 h8 h7 hH Hy hD hs hp ho HL;go_wp2_with fail
       clear Ht hB;refine Zb 43 rfl (by decide +kernel) (by decide +kernel) (by decide +kernel) (by decide)
        (Is (.string o3)::Is (.string (o3++⟨#[59]⟩))::Is (.pointer (some ⟨wo.heap.size,1,none⟩))::Is (.slice (some ⟨nb,no,none⟩) ins.length nc)::Is (.int .i64 j)::Is (.pointer (some ⟨nb,no+j*5,none⟩))::Is (.pointer (some ⟨nb,no+j*5,none⟩))::Is (.int .i64 op)::Is (.string y0)::Is (.string (o3++⟨#[59]⟩++y0))::Is (.pointer (some ⟨wo.heap.size,1,none⟩))::Is (.slice (some ⟨nb,no,none⟩) ins.length nc)::Is (.int .i64 j)::Is (.pointer (some ⟨nb,no+j*5,none⟩))::Is (.pointer (some ⟨nb,no+j*5+1,none⟩))::Is (.int .i64 dst)::Is (.string y1)::Is (.string (o3++⟨#[59]⟩++y0++y1))::Is (.pointer (some ⟨wo.heap.size,1,none⟩))::Is (.slice (some ⟨nb,no,none⟩) ins.length nc)::Is (.int .i64 j)::Is (.pointer (some ⟨nb,no+j*5,none⟩))::Is (.pointer (some ⟨nb,no+j*5+2,none⟩))::Is (.int .i64 two)::Is (.string y2)::Is (.string (o3++⟨#[59]⟩++y0++y1++y2))::Is (.pointer (some ⟨wo.heap.size,1,none⟩))::Is (.slice (some ⟨nb,no,none⟩) ins.length nc)::Is (.int .i64 j)::Is (.pointer (some ⟨nb,no+j*5,none⟩))::Is (.pointer (some ⟨nb,no+j*5+3,none⟩))::Is (.slice ia iargs.length ic)::Is (.string y3)::Is (.string (o3++⟨#[59]⟩++y0++y1++y2++y3))::Is (.pointer (some ⟨wo.heap.size,1,none⟩))::Is (.slice (some ⟨nb,no,none⟩) ins.length nc)::Is (.int .i64 j)::Is (.pointer (some ⟨nb,no+j*5,none⟩))::Is (.pointer (some ⟨nb,no+j*5+4,none⟩))::Is (.int .i32 iimm)::Is (.int .i64 iimm)::Is (.string y4)::Is (.string (o3++⟨#[59]⟩++y0++y1++y2++y3++y4))::[])
        (by repeat (first | exact trivial | refine⟨Is.stable _,?_⟩ | refine⟨ZV.stable _ _,?_⟩ | refine⟨IsRows.stable _ _,?_⟩)) ⟨?_,?_,?_,?_,?_,?_,?_,?_,?_,?_,?_,?_,?_,?_,?_,?_,?_,?_,?_,?_,?_,?_,?_,?_,?_,?_,?_,?_,?_,?_,?_,?_,?_,?_,?_,?_,?_,?_,?_,?_,?_,?_,?_,trivial⟩ ?_
       all_goals
        intro vs w9 hs hk;try intro _
        simp only[List.take,List.drop,putAll,Act.put,Zh,Zc,Zd,Is,List.setIfInBounds_toArray,List.set_cons_zero,List.set_cons_succ,Nat.reduceAdd]at hk ⊢;try simp only[hk]
       iterate 3
        ·go_wp2
         exact⟨_,rfl,rfl,.refl _⟩
       ·have hq:=(HX.out.keep he.out).keep hs;have hh:w9.cell? ⟨wo.heap.size,1,none⟩=some (.slice (some ⟨nb,no,none⟩) ins.length nc):=hq.cell 1;have hg:=hq.lt;go_wp2
        exact⟨_,rfl,rfl,.refl _⟩
       ·go_wp2
        exact⟨_,rfl,rfl,.refl _⟩
       iterate 2
        ·go_wp2
         exact⟨_,rfl,(by first | rfl | (show Value.pointer _=_;simp[go_sem])),.refl _⟩
       ·have hh:w9.cell? ⟨nb,no+j*5,none⟩=some (.int .i64 op):=((ha.out.trans hs).cell (p:=⟨nb,no+j*5+0,none⟩) ht.out).trans tM.out;have hg:nb<w9.heap.size:=Nat.lt_of_lt_of_le ht.out (ha.out.trans hs).size;go_wp2
        exact⟨_,rfl,rfl,.refl _⟩
       ·go_wp2_with fail
        refine (th.out _).mono ?_;rintro e w2 ⟨rfl,hd⟩;go_wp2
        exact⟨_,rfl,rfl,hd⟩
       iterate 2
        ·go_wp2
         exact⟨_,rfl,rfl,.refl _⟩
       ·have hq:=(HX.out.keep he.out).keep hs;have hh:w9.cell? ⟨wo.heap.size,1,none⟩=some (.slice (some ⟨nb,no,none⟩) ins.length nc):=hq.cell 1;have hg:=hq.lt;go_wp2
        exact⟨_,rfl,rfl,.refl _⟩
       ·go_wp2
        exact⟨_,rfl,rfl,.refl _⟩
       iterate 2
        ·go_wp2
         exact⟨_,rfl,(by first | rfl | (show Value.pointer _=_;simp[go_sem])),.refl _⟩
       ·have hh:w9.cell? ⟨nb,no+j*5+1,none⟩=some (.int .i64 dst):=((ha.out.trans hs).cell (p:=⟨nb,no+j*5+1,none⟩) ht.out).trans tL.out;have hg:nb<w9.heap.size:=Nat.lt_of_lt_of_le ht.out (ha.out.trans hs).size;go_wp2
        exact⟨_,rfl,rfl,.refl _⟩
       ·go_wp2_with fail
        refine (tf.out _).mono ?_;rintro e w2 ⟨rfl,hd⟩;go_wp2
        exact⟨_,rfl,rfl,hd⟩
       iterate 2
        ·go_wp2
         exact⟨_,rfl,rfl,.refl _⟩
       ·have hq:=(HX.out.keep he.out).keep hs;have hh:w9.cell? ⟨wo.heap.size,1,none⟩=some (.slice (some ⟨nb,no,none⟩) ins.length nc):=hq.cell 1;have hg:=hq.lt;go_wp2
        exact⟨_,rfl,rfl,.refl _⟩
       ·go_wp2
        exact⟨_,rfl,rfl,.refl _⟩
       iterate 2
        ·go_wp2
         exact⟨_,rfl,(by first | rfl | (show Value.pointer _=_;simp[go_sem])),.refl _⟩
       ·have hh:w9.cell? ⟨nb,no+j*5+2,none⟩=some (.int .i64 two):=((ha.out.trans hs).cell (p:=⟨nb,no+j*5+2,none⟩) ht.out).trans tK.out;have hg:nb<w9.heap.size:=Nat.lt_of_lt_of_le ht.out (ha.out.trans hs).size;go_wp2
        exact⟨_,rfl,rfl,.refl _⟩
       ·go_wp2_with fail
        refine (te.out _).mono ?_;rintro e w2 ⟨rfl,hd⟩;go_wp2
        exact⟨_,rfl,rfl,hd⟩
       iterate 2
        ·go_wp2
         exact⟨_,rfl,rfl,.refl _⟩
       ·have hq:=(HX.out.keep he.out).keep hs;have hh:w9.cell? ⟨wo.heap.size,1,none⟩=some (.slice (some ⟨nb,no,none⟩) ins.length nc):=hq.cell 1;have hg:=hq.lt;go_wp2
        exact⟨_,rfl,rfl,.refl _⟩
       ·go_wp2
        exact⟨_,rfl,rfl,.refl _⟩
       iterate 2
        ·go_wp2
         exact⟨_,rfl,(by first | rfl | (show Value.pointer _=_;simp[go_sem])),.refl _⟩
       ·have hh:w9.cell? ⟨nb,no+j*5+3,none⟩=some (.slice ia iargs.length ic):=((ha.out.trans hs).cell (p:=⟨nb,no+j*5+3,none⟩) ht.out).trans tJ.out;have hg:nb<w9.heap.size:=Nat.lt_of_lt_of_le ht.out (ha.out.trans hs).size;go_wp2
        exact⟨_,rfl,rfl,.refl _⟩
       ·have hM:=(ha.out.trans hs);go_wp2_with fail
        refine (td.out _ hM).mono ?_;rintro e w2 ⟨rfl,hd⟩;go_wp2
        exact⟨_,rfl,rfl,hd⟩
       iterate 2
        ·go_wp2
         exact⟨_,rfl,rfl,.refl _⟩
       ·have hq:=(HX.out.keep he.out).keep hs;have hh:w9.cell? ⟨wo.heap.size,1,none⟩=some (.slice (some ⟨nb,no,none⟩) ins.length nc):=hq.cell 1;have hg:=hq.lt;go_wp2
        exact⟨_,rfl,rfl,.refl _⟩
       ·go_wp2
        exact⟨_,rfl,rfl,.refl _⟩
       iterate 2
        ·go_wp2
         exact⟨_,rfl,(by first | rfl | (show Value.pointer _=_;simp[go_sem])),.refl _⟩
       ·have hh:w9.cell? ⟨nb,no+j*5+4,none⟩=some (.int .i32 iimm):=((ha.out.trans hs).cell (p:=⟨nb,no+j*5+4,none⟩) ht.out).trans tI.out;have hg:nb<w9.heap.size:=Nat.lt_of_lt_of_le ht.out (ha.out.trans hs).size;go_wp2
        exact⟨_,rfl,rfl,.refl _⟩
       ·go_wp2
        exact⟨_,rfl,rfl,.refl _⟩
       ·go_wp2_with fail
        refine (H9.out _).mono ?_;rintro e w2 ⟨rfl,hd⟩;go_wp2
        exact⟨_,rfl,rfl,hd⟩
       ·go_wp2
        exact⟨_,rfl,rfl,.refl _⟩
       ·have hO:=hid (he.out.trans hs);clear hs hk;go_wp2
        go_roundw
        case rel=>exact⟨j+1,_,hG.out,rfl,by go_num,by omega,hO.out⟩
        case measure=>simp[intOf];omega
      ·obtain rfl:ins.length=j:=by omega
       rw[List.take_length]at hF;have hi:=hid HD.out.term;have HC:=hi.out.imm.1;have HB:=hi.out.imm.2;dsimp only at HC HB;have tw:args.length≤1000000:=hi.out.ar.2;have t9:tgt.length≤1000000:=hi.out.tg.2;obtain⟨v0,Hh⟩:∃ z:ByteArray,⟨(d3 kd).toArray⟩=z:=⟨_,rfl⟩
       have h0:=fun W=>YG kd W hi.out.kd
       rw[Hh]at h0;have tl:=hid h0;have t7:v0.size≤1000000:=by rw[←Hh,Zu];have:=Xt kd hi.out.kd;omega
       clear h0;obtain⟨v1,Hg⟩:∃ z:ByteArray,⟨(Wx args).toArray⟩=z:=⟨_,rfl⟩
       have tk:=hid (fun (W:World) (hW:Since w W)=>(show Calls Tryz.prog 82 #[.slice aa args.length ac] W (Xl v1 W) from by rw[←Hg];exact KX _ args W (ZN.keep tS.out hW) hi.out.ar.1 (by have:=Wr args hi.out.ar.1;have:=hi.out.ar.2;omega)))
       have t6:v1.size≤40000000:=by rw[←Hg,Zu];have:=Wr args hi.out.ar.1;have:=hi.out.ar.2;unfold Wx;simp only[List.length_cons,List.length_append,List.length_nil];omega
       obtain⟨v2,Hf⟩:∃ z:ByteArray,⟨(Wx tgt).toArray⟩=z:=⟨_,rfl⟩
       have tj:=hid (fun (W:World) (hW:Since w W)=>(show Calls Tryz.prog 82 #[.slice ta tgt.length tc] W (Xl v2 W) from by rw[←Hf];exact KX _ tgt W (ZN.keep tx.out hW) hi.out.tg.1 (by have:=Wr tgt hi.out.tg.1;have:=hi.out.tg.2;omega)))
       have t5:v2.size≤40000000:=by rw[←Hf,Zu];have:=Wr tgt hi.out.tg.1;have:=hi.out.tg.2;unfold Wx;simp only[List.length_cons,List.length_append,List.length_nil];omega
       obtain⟨v3,He⟩:∃ z:ByteArray,⟨(d3 imm).toArray⟩=z:=⟨_,rfl⟩
       have hZ:=fun W=>YG imm W (YN hi.out.imm)
       rw[He]at hZ;have ti:=hid hZ;have t4:v3.size≤1000000:=by rw[←He,Zu];have:=Xt imm (YN hi.out.imm);omega
       clear hZ;have hG:=hid (show o3++⟨#[124]⟩++v0++v1++v2++v3=⟨(d3 params++((blocks.map FBlk.d).take (k+1)).flatMap bl3).toArray⟩ from by
        rw[hF.out,←Hh,←Hg,←Hf,←He,HQ.out,←List.append_assoc,HA.out,←tU.out,←tT.out];apply Zn
        repeat rw[Zg]
        simp[bl3,tm3,FBlk.d,Zt.d,List.flatMap_map])
       clear Hh Hg Hf He hs hp ho;go_wp2_with fail
       clear Ht hB;refine Zb 23 rfl (by decide +kernel) (by decide +kernel) (by decide +kernel) (by decide)
        [Is (.string o3),Is (.string (o3++⟨#[124]⟩)),Is (.pointer (some ⟨wo.heap.size,2,none⟩)),Is (.pointer (some ⟨wo.heap.size,2,none⟩)),Is (.int .i64 kd),Is (.string v0),Is (.string (o3++⟨#[124]⟩++v0)),Is (.pointer (some ⟨wo.heap.size,2,none⟩)),Is (.pointer (some ⟨wo.heap.size,3,none⟩)),Is (.slice aa args.length ac),Is (.string v1),Is (.string (o3++⟨#[124]⟩++v0++v1)),Is (.pointer (some ⟨wo.heap.size,2,none⟩)),Is (.pointer (some ⟨wo.heap.size,4,none⟩)),Is (.slice ta tgt.length tc),Is (.string v2),Is (.string (o3++⟨#[124]⟩++v0++v1++v2)),Is (.pointer (some ⟨wo.heap.size,2,none⟩)),Is (.pointer (some ⟨wo.heap.size,5,none⟩)),Is (.int .i32 imm),Is (.int .i64 imm),Is (.string v3),Is (.string (o3++⟨#[124]⟩++v0++v1++v2++v3))]
        (by repeat (first | exact trivial | refine⟨Is.stable _,?_⟩ | refine⟨ZV.stable _ _,?_⟩ | refine⟨IsRows.stable _ _,?_⟩)) ⟨?_,?_,?_,?_,?_,?_,?_,?_,?_,?_,?_,?_,?_,?_,?_,?_,?_,?_,?_,?_,?_,?_,?_,trivial⟩ ?_
       all_goals
        intro vs w9 hs hk;try intro _
        simp only[List.take,List.drop,putAll,Act.put,Zh,Zc,Zd,Is,List.setIfInBounds_toArray,List.set_cons_zero,List.set_cons_succ,Nat.reduceAdd]at hk ⊢;try simp only[hk]
       iterate 2
        ·go_wp2
         exact⟨_,rfl,rfl,.refl _⟩
       iterate 2
        ·go_wp2
         exact⟨_,rfl,(by first | rfl | (show Value.pointer _=_;simp[go_sem])),.refl _⟩
       ·have hq:=(HX.out.keep he.out).keep hs;have hh:w9.cell? ⟨wo.heap.size,2,none⟩=some (.int .i64 kd):=hq.cell 2;have hg:=hq.lt;go_wp2
        exact⟨_,rfl,rfl,.refl _⟩
       ·go_wp2_with fail
        refine (tl.out _).mono ?_;rintro e w2 ⟨rfl,hd⟩;go_wp2
        exact⟨_,rfl,rfl,hd⟩
       ·go_wp2
        exact⟨_,rfl,rfl,.refl _⟩
       iterate 2
        ·go_wp2
         exact⟨_,rfl,(by first | rfl | (show Value.pointer _=_;simp[go_sem])),.refl _⟩
       ·have hq:=(HX.out.keep he.out).keep hs;have hh:w9.cell? ⟨wo.heap.size,3,none⟩=some (.slice aa args.length ac):=hq.cell 3;have hg:=hq.lt;go_wp2
        exact⟨_,rfl,rfl,.refl _⟩
       ·have hM:=(ha.out.trans hs);go_wp2_with fail
        refine (tk.out _ hM).mono ?_;rintro e w2 ⟨rfl,hd⟩;go_wp2
        exact⟨_,rfl,rfl,hd⟩
       ·go_wp2
        exact⟨_,rfl,rfl,.refl _⟩
       iterate 2
        ·go_wp2
         exact⟨_,rfl,(by first | rfl | (show Value.pointer _=_;simp[go_sem])),.refl _⟩
       ·have hq:=(HX.out.keep he.out).keep hs;have hh:w9.cell? ⟨wo.heap.size,4,none⟩=some (.slice ta tgt.length tc):=hq.cell 4;have hg:=hq.lt;go_wp2
        exact⟨_,rfl,rfl,.refl _⟩
       ·have hM:=(ha.out.trans hs);go_wp2_with fail
        refine (tj.out _ hM).mono ?_;rintro e w2 ⟨rfl,hd⟩;go_wp2
        exact⟨_,rfl,rfl,hd⟩
       ·go_wp2
        exact⟨_,rfl,rfl,.refl _⟩
       iterate 2
        ·go_wp2
         exact⟨_,rfl,(by first | rfl | (show Value.pointer _=_;simp[go_sem])),.refl _⟩
       ·have hq:=(HX.out.keep he.out).keep hs;have hh:w9.cell? ⟨wo.heap.size,5,none⟩=some (.int .i32 imm):=hq.cell 5;have hg:=hq.lt;go_wp2
        exact⟨_,rfl,rfl,.refl _⟩
       ·go_wp2
        exact⟨_,rfl,rfl,.refl _⟩
       ·go_wp2_with fail
        refine (ti.out _).mono ?_;rintro e w2 ⟨rfl,hd⟩;go_wp2
        exact⟨_,rfl,rfl,hd⟩
       ·go_wp2
        exact⟨_,rfl,rfl,.refl _⟩
       ·have hO:=hid ((tC.out.trans Hp.out).trans (he.out.trans hs));clear hs hk;go_wp2
        go_roundw
        case rel=>exact⟨k+1,_,hG.out,rfl,by go_num,by omega,hO.out⟩
        case measure=>simp[intOf];omega
  ·obtain rfl:blocks.length=k:=by omega
   have tB:=hid (HN.out.trans tz.out);have tO:=zH (out=⟨(d3 params++(blocks.map FBlk.d).flatMap bl3).toArray⟩) (by rw[HO.out,List.take_of_length_le (by rw[List.length_map];exact Nat.le_refl _)]);clear hb hs Hm;go_wp2
   go_ret
   exact⟨by rw[tO.out];rfl,tB.out⟩
end Go.Proofs.YtmhojfpidedjeaaGreatDoor
