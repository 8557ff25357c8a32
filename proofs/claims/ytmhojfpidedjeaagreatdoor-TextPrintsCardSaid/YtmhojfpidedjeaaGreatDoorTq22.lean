/- jacquardref25.Func: which text a function is, by the document. (Printed by tools/gen_text/rfunc.py.) -/
import Derived.Test.YtmhojfpidedjeaaGreatDoorTq06
import Derived.Test.YtmhojfpidedjeaaGreatDoorTq21
namespace Go.Proofs.YtmhojfpidedjeaaGreatDoor
open Go.RowKit
set_option linter.unusedVariables false
theorem bs_tail (x:Int):(⟨(dS x).toArray⟩:ByteArray).extract 1 (⟨(dS x).toArray⟩:ByteArray).size=⟨(Lib.itoa x).toArray⟩:=by
 apply bytes_ext
 rw[bs_size,Lib.extract_data]
 unfold dS
 simp
set_option maxHeartbeats 8000000 in
set_option maxRecDepth 100000 in
theorem rfunc25_any (f:FnV) (w:World) (hf:FnIn w f) (hr:FnR f) (hn:(funcS f.d).length≤500000) :
  Calls Tryz.prog 12 #[fv f] w (StrQ ⟨(funcS f.d).toArray⟩ w):=by
 obtain⟨params,blocks,bv⟩:=f
 obtain⟨ba,bc,e,hbl⟩:=RowIn.shape hf
 obtain rfl:bv=.slice ba blocks.length bc:=e
 unfold maxLen at hbl
 have HF:=Lib.hid hf
 have HR:=Lib.hid hr
 rw[func_head]at hn ⊢
 simp only[FnV.d,List.length_map]at hn ⊢
 have HT:Hid (∀ k,k≤blocks.length→(headS params).length+(blksS (blocks.map FBlk.d) k).length≤500000):=Lib.hid (by
  intro k hk
  have h1:=blks_le (blocks.map FBlk.d) blocks.length k hk
  rw[List.length_append]at hn
  omega)
 have HS0:=Lib.hid ((Since.refl w).alloc (.cells #[.int .i64 params,.slice ba blocks.length bc] 24))
 have HBX:=Lib.hid (HeapIs.new w #[.int .i64 params,.slice ba blocks.length bc] 24)
 clear hf hr hn
 unfold fv
 dsimp only
 obtain⟨z9,hz9⟩:∃ z:ByteArray,⟨(dS params).toArray⟩=z:=⟨_,rfl⟩
 have hcz9:=fun W=>rd_any params W HR.out.params
 rw[hz9]at hcz9
 have HCz9:=Lib.hid hcz9
 have hsz9:z9.size≤1000000:=by rw[←hz9,bs_size];have:=dS_len params HR.out.params;omega
 have HH:=Lib.hid (show (⟨#[102,117,110,99]⟩:ByteArray)++z9++⟨#[10]⟩=⟨(headS params).toArray⟩ from by rw[←hz9];unfold headS;apply bytes_ext;rw[bytes_app,bytes_app];simp)
 clear hz9 hcz9
 go_enter Tryz.func12,Tryz.ntmps12
 go_wp2_with fail
 refine (HCz9.out _).mono ?_
 rintro e w1 ⟨rfl,hs1⟩
 have HB1:=Lib.hid (HBX.out.keep hs1)
 have HS1:=Lib.hid (HS0.out.trans hs1)
 clear hs1 HBX HS0
 go_wp2_with fail
 go_loopw [3,4] (fun so io wr=>∃ (k:Nat) (out:ByteArray),out=⟨(headS params++blksS (blocks.map FBlk.d) k).toArray⟩∧so=.string out∧io=.int .i64 k∧k≤blocks.length∧Since w1 wr) (fun _ io _=>blocks.length-(intOf io).toNat)
 case atStart=>exact⟨0,_,by rw[HH.out];unfold blksS;simp,rfl,rfl,Nat.zero_le _,Since.refl _⟩
 case round =>
  obtain⟨k,out,hout,rfl,rfl,hk,hs⟩:=hrel
  have hb1:=HB1.out.keep hs
  have hbc:wr.cell? ⟨w.heap.size,1,none⟩=some (.slice ba blocks.length bc):=hb1.cell 1
  have hbl1:=hb1.lt
  have HSR:=Lib.hid hs
  have HO:=Lib.hid hout
  have hso:out.size≤500000:=by rw[hout,bs_size,List.length_append];exact HT.out k hk
  clear hb1 hs hout
  by_cases hlt:k<blocks.length
  ·obtain⟨rb,off,x,rfl,hrb,hx,hc,hxin⟩:=RowIn.at HF.out hlt
   have HXR:=Lib.hid (HR.out.blocks x (List.mem_of_getElem? hx))
   have HNX:=Lib.hid (blks_next (map_at FBlk.d hx))
   have hln:=HT.out (k+1) hlt
   rw[HNX.out,List.length_append]at hln
   obtain⟨A,hA⟩:∃ A,headS params++blksS (blocks.map FBlk.d) k=A:=⟨_,rfl⟩
   rw[←Nat.add_assoc,←List.length_append,hA,blk_eq]at hln
   rw[hA]at HO
   obtain⟨phis,phv,ins,inv,⟨kd,args,argsv,tgt,tov,imm⟩⟩:=x
   obtain⟨hphi,hins,hargs,hto⟩:=hxin
   obtain⟨pa,pc,e,hpl⟩:=RowIn.shape hphi
   obtain rfl:phv=.slice pa phis.length pc:=e
   obtain⟨na,nc,e,hnl⟩:=RowIn.shape hins
   obtain rfl:inv=.slice na ins.length nc:=e
   obtain⟨aa,ac,e⟩:=nums_lenI hargs
   obtain rfl:argsv=.slice aa args.length ac:=e
   obtain⟨ta,tc,e⟩:=nums_lenI hto
   obtain rfl:tov=.slice ta tgt.length tc:=e
   unfold maxLen at hpl hnl
   have HC0:=Lib.hid (hc 0 (by decide))
   have HC1:=Lib.hid (hc 1 (by decide))
   have HC2:=Lib.hid (hc 2 (by decide))
   have HC3:=Lib.hid (hc 3 (by decide))
   have HC4:=Lib.hid (hc 4 (by decide))
   have HC5:=Lib.hid (hc 5 (by decide))
   have HRB:=Lib.hid hrb
   have HPH:=Lib.hid hphi
   have HIN:=Lib.hid hins
   have HAR:=Lib.hid hargs
   have HTO:=Lib.hid hto
   have HA:=Lib.hid hA
   simp only[List.length_append,List.length_cons,List.length_nil]at hln
   have HLN:=Lib.hid hln
   clear hphi hins hargs hto hA hc hx hln hrb
   obtain⟨z8,hz8⟩:∃ z:ByteArray,⟨(dS (k:Int)).toArray⟩=z:=⟨_,rfl⟩
   have hcz8:=fun W=>rd_any (k:Int) W ⟨by omega,by omega⟩
   rw[hz8]at hcz8
   have HCz8:=Lib.hid hcz8
   have hsz8:z8.size≤1000000:=by rw[←hz8,bs_size];have:=dS_len (k:Int) ⟨by omega,by omega⟩;omega
   have hA1:out++⟨#[98,108,111,99,107]⟩++z8++⟨#[10]⟩=⟨(A++bhead k).toArray⟩:=by
    rw[HO.out,←hz8];unfold bhead;apply bytes_ext;rw[bytes_app,bytes_app,bytes_app];simp
   have HA1:=Lib.hid hA1
   clear hz8 hcz8 hA1
   go_wp2_with fail
   refine (HCz8.out _).mono ?_
   rintro e w2 ⟨rfl,hs2⟩
   have hs3:=HSR.out.trans hs2
   have hs4:=HS1.out.trans hs3
   have hb2:=HB1.out.keep hs3
   clear hbc hbl1
   have hbc:w2.cell? ⟨w.heap.size,1,none⟩=some (.slice (some ⟨rb,off,none⟩) blocks.length bc):=hb2.cell 1
   have hbl1:=hb2.lt
   have c0:w2.cell? ⟨rb,off+k*6,none⟩=some (.slice pa phis.length pc):=(hs4.cell (p:=⟨rb,off+k*6+0,none⟩) HRB.out).trans HC0.out
   have c1:w2.cell? ⟨rb,off+k*6+1,none⟩=some (.slice na ins.length nc):=(hs4.cell (p:=⟨rb,off+k*6+1,none⟩) HRB.out).trans HC1.out
   have c2:w2.cell? ⟨rb,off+k*6+2,none⟩=some (.int .i64 kd):=(hs4.cell (p:=⟨rb,off+k*6+2,none⟩) HRB.out).trans HC2.out
   have c3:w2.cell? ⟨rb,off+k*6+3,none⟩=some (.slice aa args.length ac):=(hs4.cell (p:=⟨rb,off+k*6+3,none⟩) HRB.out).trans HC3.out
   have c4:w2.cell? ⟨rb,off+k*6+4,none⟩=some (.slice ta tgt.length tc):=(hs4.cell (p:=⟨rb,off+k*6+4,none⟩) HRB.out).trans HC4.out
   have c5:w2.cell? ⟨rb,off+k*6+5,none⟩=some (.int .i32 imm):=(hs4.cell (p:=⟨rb,off+k*6+5,none⟩) HRB.out).trans HC5.out
   have hrl:rb<w2.heap.size:=Nat.lt_of_lt_of_le HRB.out hs4.size
   have HX:=Lib.hid (HeapIs.new w2 #[.slice pa phis.length pc,.slice na ins.length nc,.int .i64 kd,.slice aa args.length ac,.slice ta tgt.length tc,.int .i32 imm] 57)
   obtain⟨wo,hwo⟩:∃ z,z=w2:=⟨_,rfl⟩
   subst hwo
   have HS4:=Lib.hid hs4
   have HS3:=Lib.hid hs3
   clear hs2 hs3 hs4 hb2
   go_wp2_with fail
   clear c0 c1 c2 c3 c4 c5 hrl hbc hbl1
   rw[HA1.out]
   obtain⟨wx,hwx⟩:∃ z,wo.alloc (.cells #[.slice pa phis.length pc,.slice na ins.length nc,.int .i64 kd,.slice aa args.length ac,.slice ta tgt.length tc,.int .i32 imm] 57)=z:=⟨_,rfl⟩
   rw[hwx]at HX ⊢
   have HSX:=Lib.hid (show Since wo wx from by rw[←hwx];exact (Since.refl _).alloc _)
   clear hwx
   obtain⟨A1,hA1⟩:∃ A1,A++bhead k=A1:=⟨_,rfl⟩
   have hA1l:A1.length=A.length+(bhead k).length:=by rw[←hA1,List.length_append]
   have HLN1:=Lib.hid (show A1.length+((phis.flatMap phT).length+((ins.flatMap inT).length+((termS (FTerm.d ⟨kd,args,.slice aa args.length ac,tgt,.slice ta tgt.length tc,imm⟩)).length+1)))≤500000 from by have:=HLN.out;omega)
   rw[hA1]
   have HAA:=Lib.hid hA1
   clear hA1 hA1l HLN HA1
   go_loopw [3,6] (fun so io wr=>∃ (j:Nat) (out:ByteArray),out=⟨(A1++(phis.take j).flatMap phT).toArray⟩∧so=.string out∧io=.int .i64 j∧j≤phis.length∧Since wx wr) (fun _ io _=>phis.length-(intOf io).toNat)
   case atStart=>exact⟨0,_,by simp,rfl,rfl,Nat.zero_le _,Since.refl _⟩
   case round =>
    obtain⟨j,o2,hout,rfl,rfl,hj,hs⟩:=hrel
    have hx1:=HX.out.keep hs
    have hxc:wr.cell? ⟨wo.heap.size,0,none⟩=some (.slice pa phis.length pc):=hx1.cell 0
    have hxl:=hx1.lt
    have HSI:=Lib.hid hs
    have HO2:=Lib.hid hout
    have hso2:o2.size≤500000:=by
     have h1:=flat_take phT phis j
     have:=HLN1.out
     rw[hout,bs_size,List.length_append];omega
    clear hout
    by_cases hjl:j<phis.length
    ·obtain⟨pb,po,p,rfl,hpb,hpx,hpc,hpin⟩:=RowIn.at HPH.out hjl
     have HPR:=Lib.hid (HXR.out.phis p (List.mem_of_getElem? hpx))
     have hpn:=flat_take phT phis (j+1)
     rw[flat_next phT hpx,List.length_append]at hpn
     have HPX:=Lib.hid (flat_next phT hpx)
     obtain⟨dst,pins,pinv⟩:=p
     replace hpin:PairsIn w pinv pins:=hpin
     obtain⟨ia,ic,e,hmm⟩:=RowIn.shape hpin
     obtain rfl:pinv=.slice ia pins.length ic:=e
     unfold maxLen at hmm
     have hphi:phT ⟨dst,pins,.slice ia pins.length ic⟩=[112,104,105]++(dS dst++pins.flatMap pairS)++[10]:=rfl
     rw[hphi]at hpn
     simp only[List.length_append,List.length_cons,List.length_nil]at hpn
     have HLN2:=Lib.hid (show (A1++(phis.take j).flatMap phT).length+(3+((dS dst).length+(pins.flatMap pairS).length)+1)≤500000 from by have:=HLN1.out;rw[List.length_append];omega)
     have hsw:=HS4.out.trans (HSX.out.trans hs)
     have d0:wr.cell? ⟨pb,po+j*2,none⟩=some (.int .i64 dst):=(hsw.cell (p:=⟨pb,po+j*2+0,none⟩) hpb).trans (hpc 0 (by decide))
     have d1:wr.cell? ⟨pb,po+j*2+1,none⟩=some (.slice ia pins.length ic):=(hsw.cell (p:=⟨pb,po+j*2+1,none⟩) hpb).trans (hpc 1 (by decide))
     have hrl:pb<wr.heap.size:=Nat.lt_of_lt_of_le hpb hsw.size
     have HD1:=Lib.hid (hpc 1 (by decide))
     have HPB:=Lib.hid hpb
     have HPI:=Lib.hid hpin
     obtain⟨z7,hz7⟩:∃ z:ByteArray,⟨(dS dst).toArray⟩=z:=⟨_,rfl⟩
     have hcz7:=fun W=>rd_any dst W HPR.out.dst
     rw[hz7]at hcz7
     have HCz7:=Lib.hid hcz7
     have hsz7:z7.size≤1000000:=by rw[←hz7,bs_size];have:=dS_len dst HPR.out.dst;omega
     have hA2:o2++⟨#[112,104,105]⟩++z7=⟨((A1++(phis.take j).flatMap phT)++([112,104,105]++dS dst)).toArray⟩:=by
      rw[HO2.out,←hz7];apply bytes_ext;rw[bytes_app,bytes_app];simp
     have HA2:=Lib.hid hA2
     obtain⟨A2,hA2e⟩:∃ A2,(A1++(phis.take j).flatMap phT)++([112,104,105]++dS dst)=A2:=⟨_,rfl⟩
     have hA2l:A2.length=(A1++(phis.take j).flatMap phT).length+(3+(dS dst).length):=by rw[←hA2e];simp only[List.length_append,List.length_cons,List.length_nil]
     rw[hA2e]at HA2
     have HA2E:=Lib.hid hA2e
     have HLN3:=Lib.hid (show A2.length+((pins.flatMap pairS).length+1)≤500000 from by have:=HLN2.out;omega)
     clear hz7 hcz7 hA2 hA2e hA2l hpc hpin hpx hphi hpn hs hsw hpb
     go_wp2_with fail
     refine (HCz7.out _).mono ?_
     rintro e w3 ⟨rfl,hs3⟩
     clear hxc hxl d0 d1 hrl
     have HSJ:=Lib.hid (HSI.out.trans hs3)
     clear hs3 hx1 HSI
     go_wp2_with fail
     go_loopw [3,7] (fun so io wr=>∃ (m:Nat) (out:ByteArray),out=⟨(A2++(pins.take m).flatMap pairS).toArray⟩∧so=.string out∧io=.int .i64 m∧m≤pins.length∧Since wx wr) (fun _ io _=>pins.length-(intOf io).toNat)
     case atStart=>exact⟨0,_,by rw[List.take_zero,List.flatMap_nil,List.append_nil];exact HA2.out,rfl,rfl,Nat.zero_le _,HSJ.out⟩
     case round =>
      obtain⟨m,out,hout,rfl,rfl,hm,hs⟩:=hrel
      have hx1:=HX.out.keep hs
      have hxc:wr.cell? ⟨wo.heap.size,0,none⟩=some (.slice (some ⟨pb,po,none⟩) phis.length pc):=hx1.cell 0
      have hxl:=hx1.lt
      have hsw:=HS4.out.trans (HSX.out.trans hs)
      have d1:wr.cell? ⟨pb,po+j*2+1,none⟩=some (.slice ia pins.length ic):=(hsw.cell (p:=⟨pb,po+j*2+1,none⟩) HPB.out).trans HD1.out
      have hrl:pb<wr.heap.size:=Nat.lt_of_lt_of_le HPB.out hsw.size
      have HSI:=Lib.hid hs
      have HSW:=Lib.hid hsw
      have HO3:=Lib.hid hout
      have hso3:out.size≤500000:=by
       have h1:=flat_take pairS pins m
       have:=HLN3.out
       rw[hout,bs_size,List.length_append];omega
      clear hx1 hs hsw hout
      by_cases hml:m<pins.length
      ·obtain⟨zb,zo,y,rfl,hzb,hy,hyc,_⟩:=RowIn.at HPI.out hml
       obtain⟨fr,vl⟩:=y
       have HRG:=Lib.hid (HPR.out.ins _ (List.mem_of_getElem? hy))
       have HE0:=Lib.hid (hyc 0 (by decide))
       have HE1:=Lib.hid (hyc 1 (by decide))
       have HZB:=Lib.hid hzb
       obtain⟨z0,hz0⟩:∃ z:ByteArray,⟨(dS fr).toArray⟩=z:=⟨_,rfl⟩
       have hcz0:=fun W=>rd_any fr W HRG.out.1
       rw[hz0]at hcz0
       have HC0:=Lib.hid hcz0
       have hsz0:z0.size≤1000000:=by rw[←hz0,bs_size];have:=dS_len fr HRG.out.1;omega
       obtain⟨z1,hz1⟩:∃ z:ByteArray,⟨(dS vl).toArray⟩=z:=⟨_,rfl⟩
       have hcz1:=fun W=>rd_any vl W HRG.out.2
       rw[hz1]at hcz1
       have HC1:=Lib.hid hcz1
       have hsz1:z1.size≤1000000:=by rw[←hz1,bs_size];have:=dS_len vl HRG.out.2;omega
       obtain⟨x1,hx1⟩:∃ x:ByteArray,z1.extract 1 z1.size=x:=⟨_,rfl⟩
       have hsl:=hx1
       have hx1s:x1.size≤1000000:=by rw[←hx1,ByteArray.size_extract];omega
       have hz1p:1≤z1.size:=by rw[←hz1,bs_size];unfold dS;simp
       have HNXT:=Lib.hid (show out++z0++⟨#[58]⟩++x1=⟨(A2++(pins.take (m+1)).flatMap pairS).toArray⟩ from by
        rw[HO3.out,←hx1,←hz0,←hz1,bs_tail,flat_next pairS hy]
        apply bytes_ext
        rw[bytes_app,bytes_app,bytes_app]
        simp[pairS])
       clear hz0 hz1 hcz0 hcz1 hx1 hy hyc hzb
       go_wp2_with fail
       clear hxc hxl d1 hrl
       refine wp_region_since_tail 27 rfl (by decide +kernel) (by decide +kernel) (by decide +kernel) (by decide)
        [Is (.string out),Is (.pointer (some ⟨wo.heap.size,0,none⟩)),Is (.slice (some ⟨pb,po,none⟩) phis.length pc),Is (.int .i64 j),Is (.pointer (some ⟨pb,po+j*2,none⟩)),Is (.pointer (some ⟨pb,po+j*2+1,none⟩)),Is (.slice (some ⟨zb,zo,none⟩) pins.length ic),Is (.int .i64 m),Is (.pointer (some ⟨zb,zo+m*2,none⟩)),Is (.pointer (some ⟨zb,zo+m*2,none⟩)),Is (.int .i64 fr),Is (.string z0),Is (.string (out++z0)),Is (.string (out++z0++⟨#[58]⟩)),Is (.pointer (some ⟨wo.heap.size,0,none⟩)),Is (.slice (some ⟨pb,po,none⟩) phis.length pc),Is (.int .i64 j),Is (.pointer (some ⟨pb,po+j*2,none⟩)),Is (.pointer (some ⟨pb,po+j*2+1,none⟩)),Is (.slice (some ⟨zb,zo,none⟩) pins.length ic),Is (.int .i64 m),Is (.pointer (some ⟨zb,zo+m*2,none⟩)),Is (.pointer (some ⟨zb,zo+m*2+1,none⟩)),Is (.int .i64 vl),Is (.string z1),Is (.string x1),Is (.string (out++z0++⟨#[58]⟩++x1))]
        (by repeat (first | exact trivial | refine⟨Is.stable _,?_⟩ | refine⟨IsNums.stable _ _,?_⟩ | refine⟨IsRows.stable _ _,?_⟩)) ⟨?_,?_,?_,?_,?_,?_,?_,?_,?_,?_,?_,?_,?_,?_,?_,?_,?_,?_,?_,?_,?_,?_,?_,?_,?_,?_,?_,trivial⟩ ?_
       all_goals
        intro vs w9 hs hk
        try intro _
        simp only[List.take,List.drop,putAll,Act.put,Knows,KnowsAll,nthF,Is,List.setIfInBounds_toArray,List.set_cons_zero,List.set_cons_succ,Nat.reduceAdd]at hk ⊢
        try simp only[hk]
       ·go_wp2
        exact⟨_,rfl,rfl,Since.refl _⟩
       ·go_wp2
        exact⟨_,rfl,rfl,Since.refl _⟩
       ·have hq:=(HX.out.keep HSI.out).keep hs
        have hqc:w9.cell? ⟨wo.heap.size,0,none⟩=some (.slice (some ⟨pb,po,none⟩) phis.length pc):=hq.cell 0
        have hql:=hq.lt
        go_wp2
        exact⟨_,rfl,rfl,Since.refl _⟩
       ·go_wp2
        exact⟨_,rfl,rfl,Since.refl _⟩
       ·go_wp2
        exact⟨_,rfl,(by first | rfl | (show Value.pointer _=_;simp[go_sem])),Since.refl _⟩
       ·go_wp2
        exact⟨_,rfl,(by first | rfl | (show Value.pointer _=_;simp[go_sem])),Since.refl _⟩
       ·have hqc:w9.cell? ⟨pb,po+j*2+1,none⟩=some (.slice (some ⟨zb,zo,none⟩) pins.length ic):=((HSW.out.trans hs).cell (p:=⟨pb,po+j*2+1,none⟩) HPB.out).trans HD1.out
        have hql:pb<w9.heap.size:=Nat.lt_of_lt_of_le HPB.out (HSW.out.trans hs).size
        go_wp2
        exact⟨_,rfl,rfl,Since.refl _⟩
       ·go_wp2
        exact⟨_,rfl,rfl,Since.refl _⟩
       ·go_wp2
        exact⟨_,rfl,(by first | rfl | (show Value.pointer _=_;simp[go_sem])),Since.refl _⟩
       ·go_wp2
        exact⟨_,rfl,(by first | rfl | (show Value.pointer _=_;simp[go_sem])),Since.refl _⟩
       ·have hqc:w9.cell? ⟨zb,zo+m*2,none⟩=some (.int .i64 fr):=((HSW.out.trans hs).cell (p:=⟨zb,zo+m*2,none⟩) HZB.out).trans HE0.out
        have hql:zb<w9.heap.size:=Nat.lt_of_lt_of_le HZB.out (HSW.out.trans hs).size
        go_wp2
        exact⟨_,rfl,rfl,Since.refl _⟩
       ·go_wp2_with fail
        refine (HC0.out _).mono ?_
        rintro e w2 ⟨rfl,hs2⟩
        go_wp2
        exact⟨_,rfl,rfl,hs2⟩
       ·go_wp2
        exact⟨_,rfl,rfl,Since.refl _⟩
       ·go_wp2
        exact⟨_,rfl,rfl,Since.refl _⟩
       ·go_wp2
        exact⟨_,rfl,rfl,Since.refl _⟩
       ·have hq:=(HX.out.keep HSI.out).keep hs
        have hqc:w9.cell? ⟨wo.heap.size,0,none⟩=some (.slice (some ⟨pb,po,none⟩) phis.length pc):=hq.cell 0
        have hql:=hq.lt
        go_wp2
        exact⟨_,rfl,rfl,Since.refl _⟩
       ·go_wp2
        exact⟨_,rfl,rfl,Since.refl _⟩
       ·go_wp2
        exact⟨_,rfl,(by first | rfl | (show Value.pointer _=_;simp[go_sem])),Since.refl _⟩
       ·go_wp2
        exact⟨_,rfl,(by first | rfl | (show Value.pointer _=_;simp[go_sem])),Since.refl _⟩
       ·have hqc:w9.cell? ⟨pb,po+j*2+1,none⟩=some (.slice (some ⟨zb,zo,none⟩) pins.length ic):=((HSW.out.trans hs).cell (p:=⟨pb,po+j*2+1,none⟩) HPB.out).trans HD1.out
        have hql:pb<w9.heap.size:=Nat.lt_of_lt_of_le HPB.out (HSW.out.trans hs).size
        go_wp2
        exact⟨_,rfl,rfl,Since.refl _⟩
       ·go_wp2
        exact⟨_,rfl,rfl,Since.refl _⟩
       ·go_wp2
        exact⟨_,rfl,(by first | rfl | (show Value.pointer _=_;simp[go_sem])),Since.refl _⟩
       ·go_wp2
        exact⟨_,rfl,(by first | rfl | (show Value.pointer _=_;simp[go_sem])),Since.refl _⟩
       ·have hqc:w9.cell? ⟨zb,zo+m*2+1,none⟩=some (.int .i64 vl):=((HSW.out.trans hs).cell (p:=⟨zb,zo+m*2+1,none⟩) HZB.out).trans HE1.out
        have hql:zb<w9.heap.size:=Nat.lt_of_lt_of_le HZB.out (HSW.out.trans hs).size
        go_wp2
        exact⟨_,rfl,rfl,Since.refl _⟩
       ·go_wp2_with fail
        refine (HC1.out _).mono ?_
        rintro e w2 ⟨rfl,hs2⟩
        go_wp2
        exact⟨_,rfl,rfl,hs2⟩
       ·go_wp2
        exact⟨_,rfl,rfl,Since.refl _⟩
       ·go_wp2
        exact⟨_,rfl,rfl,Since.refl _⟩
       ·have HSZ:=Lib.hid (HSI.out.trans hs)
        clear hs hk hsl
        go_wp2
        go_roundw
        case rel=>exact⟨m+1,_,HNXT.out,rfl,by go_num,by omega,HSZ.out⟩
        case measure=>simp[intOf];omega
      ·obtain rfl:pins.length=m:=by omega
       rw[List.take_length]at HO3
       have HP3:=Lib.hid (show out++⟨#[10]⟩=⟨(A1++(phis.take (j+1)).flatMap phT).toArray⟩ from by
        rw[HO3.out,HPX.out,←HA2E.out]
        apply bytes_ext
        rw[bytes_app]
        simp[phT,phiS,FPhi.d])
       go_wp2
       go_roundw
       case rel=>exact⟨j+1,_,HP3.out,rfl,by go_num,by omega,HSI.out⟩
       case measure=>simp[intOf];omega
    ·obtain rfl:phis.length=j:=by omega
     rw[List.take_length]at HO2
     obtain⟨A3,hA3⟩:∃ A3,A1++phis.flatMap phT=A3:=⟨_,rfl⟩
     have hA3l:A3.length=A1.length+(phis.flatMap phT).length:=by rw[←hA3,List.length_append]
     rw[hA3]at HO2
     have HA3:=Lib.hid hA3
     have HLN2:=Lib.hid (show A3.length+((ins.flatMap inT).length+((termS (FTerm.d ⟨kd,args,.slice aa args.length ac,tgt,.slice ta tgt.length tc,imm⟩)).length+1))≤500000 from by have:=HLN1.out;omega)
     clear hA3 hA3l HLN1 hx1 hs
     go_wp2_with fail
     clear hxc hxl
     go_loopw [3,8] (fun so io wr=>∃ (j:Nat) (out:ByteArray),out=⟨(A3++(ins.take j).flatMap inT).toArray⟩∧so=.string out∧io=.int .i64 j∧j≤ins.length∧Since wx wr) (fun _ io _=>ins.length-(intOf io).toNat)
     case atStart=>exact⟨0,_,by rw[HO2.out];simp,rfl,rfl,Nat.zero_le _,HSI.out⟩
     case round =>
      obtain⟨j,o3,hout,rfl,rfl,hj,hs⟩:=hrel
      have hx1:=HX.out.keep hs
      have hxc1:wr.cell? ⟨wo.heap.size,1,none⟩=some (.slice na ins.length nc):=hx1.cell 1
      have hxl:=hx1.lt
      have HSI2:=Lib.hid hs
      have HO3:=Lib.hid hout
      have hso3:o3.size≤500000:=by
       have h1:=flat_take inT ins j
       have:=HLN2.out
       rw[hout,bs_size,List.length_append];omega
      have hsw:=HS4.out.trans (HSX.out.trans hs)
      have HSW:=Lib.hid hsw
      clear hout
      by_cases hjl:j<ins.length
      ·obtain⟨nb,no,x,rfl,hnb,hnx,hnc,hnin⟩:=RowIn.at HIN.out hjl
       have HNR:=Lib.hid (HXR.out.ins x (List.mem_of_getElem? hnx))
       have hnn:=flat_take inT ins (j+1)
       rw[flat_next inT hnx,List.length_append]at hnn
       have HNN:=Lib.hid (flat_next inT hnx)
       obtain⟨op,dst,two,iargs,iav,iimm⟩:=x
       have HNI:=Lib.hid hnin
       replace hnin:Ints w iav iargs:=hnin
       obtain⟨ia,ic,e⟩:=nums_lenI hnin
       obtain rfl:iav=.slice ia iargs.length ic:=e
       have hil:inT ⟨op,dst,two,iargs,.slice ia iargs.length ic,iimm⟩=insS (FIns.d ⟨op,dst,two,iargs,.slice ia iargs.length ic,iimm⟩)++[10]:=rfl
       rw[hil,List.length_append]at hnn
       have hil2:(insS (FIns.d ⟨op,dst,two,iargs,.slice ia iargs.length ic,iimm⟩)).length≤500000:=by have:=HLN2.out;omega
       have d0:wr.cell? ⟨nb,no+j*5,none⟩=some (.int .i64 op):=(hsw.cell (p:=⟨nb,no+j*5+0,none⟩) hnb).trans (hnc 0 (by decide))
       have d1:wr.cell? ⟨nb,no+j*5+1,none⟩=some (.int .i64 dst):=(hsw.cell (p:=⟨nb,no+j*5+1,none⟩) hnb).trans (hnc 1 (by decide))
       have d2:wr.cell? ⟨nb,no+j*5+2,none⟩=some (.int .i64 two):=(hsw.cell (p:=⟨nb,no+j*5+2,none⟩) hnb).trans (hnc 2 (by decide))
       have d3:wr.cell? ⟨nb,no+j*5+3,none⟩=some (.slice ia iargs.length ic):=(hsw.cell (p:=⟨nb,no+j*5+3,none⟩) hnb).trans (hnc 3 (by decide))
       have d4:wr.cell? ⟨nb,no+j*5+4,none⟩=some (.int .i32 iimm):=(hsw.cell (p:=⟨nb,no+j*5+4,none⟩) hnb).trans (hnc 4 (by decide))
       have hrl:nb<wr.heap.size:=Nat.lt_of_lt_of_le hnb hsw.size
       obtain⟨z6,hz6⟩:∃ z:ByteArray,⟨(insS (FIns.d ⟨op,dst,two,iargs,.slice ia iargs.length ic,iimm⟩)).toArray⟩=z:=⟨_,rfl⟩
       have hcz6:=rins25_any ⟨op,dst,two,iargs,.slice ia iargs.length ic,iimm⟩ wr (FInsIn.keep _ _ _ HNI.out HSW.out) HNR.out (by omega)
       rw[hz6]at hcz6
       have HCz6:=Lib.hid hcz6
       have hsz6:z6.size≤1000000:=by rw[←hz6,bs_size];omega
       have HNXT:=Lib.hid (show o3++z6++⟨#[10]⟩=⟨(A3++(ins.take (j+1)).flatMap inT).toArray⟩ from by
        rw[HO3.out,←hz6,HNN.out,hil]
        apply bytes_ext
        rw[bytes_app,bytes_app]
        simp)
       clear hz6 hcz6 hil hil2 hnn hnc hnx hnin hs hsw hx1 hnb
       go_wp2_with fail
       refine HCz6.out.mono ?_
       rintro e w3 ⟨rfl,hs3⟩
       have HS6:=Lib.hid (HSI2.out.trans hs3)
       clear hs3 hxc1 hxl d0 d1 d2 d3 d4 hrl
       go_wp2
       go_roundw
       case rel=>exact⟨j+1,_,HNXT.out,rfl,by go_num,by omega,HS6.out⟩
       case measure=>simp[intOf];omega
      ·obtain rfl:ins.length=j:=by omega
       rw[List.take_length]at HO3
       have hxc2:wr.cell? ⟨wo.heap.size,2,none⟩=some (.int .i64 kd):=hx1.cell 2
       have hxc3:wr.cell? ⟨wo.heap.size,3,none⟩=some (.slice aa args.length ac):=hx1.cell 3
       have hxc4:wr.cell? ⟨wo.heap.size,4,none⟩=some (.slice ta tgt.length tc):=hx1.cell 4
       have hxc5:wr.cell? ⟨wo.heap.size,5,none⟩=some (.int .i32 imm):=hx1.cell 5
       obtain⟨z5,hz5⟩:∃ z:ByteArray,⟨(termS (FTerm.d ⟨kd,args,.slice aa args.length ac,tgt,.slice ta tgt.length tc,imm⟩)).toArray⟩=z:=⟨_,rfl⟩
       have hcz5:=rterm25_any ⟨kd,args,.slice aa args.length ac,tgt,.slice ta tgt.length tc,imm⟩ wr (FTermIn.keep ⟨HAR.out,HTO.out⟩ HSW.out) HXR.out.term (by have:=HLN2.out;omega)
       rw[hz5]at hcz5
       have HCz5:=Lib.hid hcz5
       have hsz5:z5.size≤1000000:=by rw[←hz5,bs_size];have:=HLN2.out;omega
       have HNXT:=Lib.hid (show o3++z5++⟨#[10]⟩=⟨(headS params++blksS (blocks.map FBlk.d) (k+1)).toArray⟩ from by
        rw[HO3.out,←hz5,HNX.out,blk_eq,←List.append_assoc,HA.out,←List.append_assoc,HAA.out,←List.append_assoc,HA3.out]
        apply bytes_ext
        rw[bytes_app,bytes_app]
        simp)
       have HSQ:=Lib.hid (HS3.out.trans (HSX.out.trans hs))
       clear hz5 hcz5 hs hsw hx1
       go_wp2_with fail
       refine HCz5.out.mono ?_
       rintro e w3 ⟨rfl,hs3⟩
       have HS6:=Lib.hid (HSQ.out.trans hs3)
       clear hs3 hxc1 hxc2 hxc3 hxc4 hxc5 hxl
       go_wp2
       go_roundw
       case rel=>exact⟨k+1,_,HNXT.out,rfl,by go_num,by omega,HS6.out⟩
       case measure=>simp[intOf];omega
  ·obtain rfl:blocks.length=k:=by omega
   have HS9:=Lib.hid (HS1.out.trans HSR.out)
   go_wp2
   go_ret
   exact⟨by rw[HO.out];rfl,HS9.out⟩
end Go.Proofs.YtmhojfpidedjeaaGreatDoor
