/- jacquardref03.Print: the text by which functions are held. (Printed by tools/gen_text/rprint.py.) -/
import Derived.Test.YtmhojfpidedjeaaGreatDoorTq19
import Derived.Test.YtmhojfpidedjeaaGreatDoorTq22
namespace Go.Proofs.YtmhojfpidedjeaaGreatDoor
open Go.RowKit
set_option linter.unusedVariables false
def pair3 (x:Int × Int):Bs:=d3 x.1++58::d3 x.2
def phi3 (p:DPhi):Bs:=[112,104,105,32]++(d3 p.dst++p.ins.flatMap pair3)
def in3 (x:DIns):Bs:=59::(d3 x.op++(d3 x.dst++(d3 x.two++(row3 x.args++d3 x.imm))))
def tm3 (t:DTerm):Bs:=124::(d3 t.kd++(row3 t.ar++(row3 t.tg++d3 t.im)))
def bl3 (b:DBlk):Bs:=10::(b.phis.flatMap phi3++(b.ins.flatMap in3++tm3 b.term))
def print3 (f:DFn):Bs:=d3 f.params++f.blocks.flatMap bl3
def Row3 (l:List Int):Prop:=(∀ x∈l,In63 x)∧l.length≤1000000
structure Ins3 (x:FIns):Prop where
 op:In63 x.op
 dst:In63 x.dst
 two:In63 x.two
 args:Row3 x.args
 imm:In32W x.imm
structure Term3 (t:FTerm):Prop where
 kd:In63 t.kind
 ar:Row3 t.args
 tg:Row3 t.to
 imm:In32W t.imm
structure Blk3 (b:FBlk):Prop where
 phis:∀ p∈b.phis,In63 p.dst∧∀ x∈p.ins,In63 x.1∧In63 x.2
 ins:∀ i∈b.ins,Ins3 i
 term:Term3 b.term
structure Fn3 (f:FnV):Prop where
 params:In63 f.params
 blocks:∀ b∈f.blocks,Blk3 b
theorem in63_32 {x : Int} (h:In32W x):In63 x:=by unfold In32W at h;unfold In63;omega
theorem d3s_len:∀ (l:List Int),(∀ x∈l,In63 x)→(l.flatMap d3).length≤22*l.length
 | [],_=>Nat.le_refl _
 | x::r,h=>by
  rw[List.flatMap_cons,List.length_append,List.length_cons]
  have:=d3_len x (h x (by simp))
  have:=d3s_len r (fun y hy=>h y (by simp[hy]))
  omega
set_option maxHeartbeats 8000000 in
set_option maxRecDepth 100000 in
theorem print_any (f:FnV) (w:World) (hf:FnIn w f) (hr:Fn3 f) (hn:(print3 f.d).length≤4000000000000000000) :
  Calls Tryz.prog 40 #[fv f] w (StrQ ⟨(print3 f.d).toArray⟩ w):=by
 obtain⟨params,blocks,bv⟩:=f
 obtain⟨ba,bc,e,hbl⟩:=RowIn.shape hf
 obtain rfl:bv=.slice ba blocks.length bc:=e
 unfold maxLen at hbl
 have HF:=Lib.hid hf
 have HR:=Lib.hid hr
 unfold print3 at hn ⊢
 simp only[FnV.d,List.length_append]at hn ⊢
 have HT:Hid (∀ k,(d3 params).length+(((blocks.map FBlk.d).take k).flatMap bl3).length≤4000000000000000000):=Lib.hid (by
  intro k
  have h1:=flat_take bl3 (blocks.map FBlk.d) k
  omega)
 have HS0:=Lib.hid ((Since.refl w).alloc (.cells #[.int .i64 params,.slice ba blocks.length bc] 24))
 have HBX:=Lib.hid (HeapIs.new w #[.int .i64 params,.slice ba blocks.length bc] 24)
 clear hf hr hn
 unfold fv
 dsimp only
 obtain⟨z9,hz9⟩:∃ z:ByteArray,⟨(d3 params).toArray⟩=z:=⟨_,rfl⟩
 have hcz9:=fun W=>digits_any params W HR.out.params
 rw[hz9]at hcz9
 have HCz9:=Lib.hid hcz9
 have hsz9:z9.size≤1000000:=by rw[←hz9,bs_size];have:=d3_len params HR.out.params;omega
 clear hcz9
 have HH:=Lib.hid hz9
 go_enter Tryz.func40,Tryz.ntmps40
 clear hz9
 go_wp2_with fail
 refine (HCz9.out _).mono ?_
 rintro e w1 ⟨rfl,hs1⟩
 have HB1:=Lib.hid (HBX.out.keep hs1)
 have HS1:=Lib.hid (HS0.out.trans hs1)
 clear hs1 HBX HS0
 go_wp2_with fail
 go_loopw [3,4] (fun so io wr=>∃ (k:Nat) (out:ByteArray),out=⟨(d3 params++((blocks.map FBlk.d).take k).flatMap bl3).toArray⟩∧so=.string out∧io=.int .i64 k∧k≤blocks.length∧Since w1 wr) (fun _ io _=>blocks.length-(intOf io).toNat)
 case atStart=>exact⟨0,_,by rw[←HH.out];simp,rfl,rfl,Nat.zero_le _,Since.refl _⟩
 case round =>
  obtain⟨k,out,hout,rfl,rfl,hk,hs⟩:=hrel
  have hb1:=HB1.out.keep hs
  have hbc:wr.cell? ⟨w.heap.size,1,none⟩=some (.slice ba blocks.length bc):=hb1.cell 1
  have hbl1:=hb1.lt
  have HSR:=Lib.hid hs
  have HO:=Lib.hid hout
  have hso:out.size≤4000000000000000000:=by rw[hout,bs_size,List.length_append];exact HT.out k
  by_cases hlt:k<blocks.length
  ·obtain⟨rb,off,x,rfl,hrb,hx,hc,hxin⟩:=RowIn.at HF.out hlt
   have HXR:=Lib.hid (HR.out.blocks x (List.mem_of_getElem? hx))
   have HNX:=Lib.hid (flat_next bl3 (map_at FBlk.d hx))
   have hln:=HT.out (k+1)
   rw[HNX.out,List.length_append]at hln
   obtain⟨A,hA⟩:∃ A,d3 params++((blocks.map FBlk.d).take k).flatMap bl3=A:=⟨_,rfl⟩
   rw[←Nat.add_assoc,←List.length_append,hA]at hln
   rw[hA]at HO
   obtain⟨phis,phv,ins,inv,⟨kd,args,argsv,tgt,tov,imm⟩⟩:=x
   obtain⟨hphi,hins,hargs,hto⟩:=hxin
   obtain⟨pa,pc,e,hpl⟩:=RowIn.shape hphi
   obtain rfl:phv=.slice pa phis.length pc:=e
   obtain⟨na,nc,e,hnl⟩:=RowIn.shape hins
   obtain rfl:inv=.slice na ins.length nc:=e
   obtain⟨aa,ac,e⟩:=nums_lenI hargs
   obtain rfl:argsv=.slice aa args.length ac:=e
   obtain⟨ta,tc,e⟩:=nums_lenI hto
   obtain rfl:tov=.slice ta tgt.length tc:=e
   unfold maxLen at hpl hnl
   have hs4:=HS1.out.trans hs
   have c0:wr.cell? ⟨rb,off+k*6,none⟩=some (.slice pa phis.length pc):=(hs4.cell (p:=⟨rb,off+k*6+0,none⟩) hrb).trans (hc 0 (by decide))
   have c1:wr.cell? ⟨rb,off+k*6+1,none⟩=some (.slice na ins.length nc):=(hs4.cell (p:=⟨rb,off+k*6+1,none⟩) hrb).trans (hc 1 (by decide))
   have c2:wr.cell? ⟨rb,off+k*6+2,none⟩=some (.int .i64 kd):=(hs4.cell (p:=⟨rb,off+k*6+2,none⟩) hrb).trans (hc 2 (by decide))
   have c3:wr.cell? ⟨rb,off+k*6+3,none⟩=some (.slice aa args.length ac):=(hs4.cell (p:=⟨rb,off+k*6+3,none⟩) hrb).trans (hc 3 (by decide))
   have c4:wr.cell? ⟨rb,off+k*6+4,none⟩=some (.slice ta tgt.length tc):=(hs4.cell (p:=⟨rb,off+k*6+4,none⟩) hrb).trans (hc 4 (by decide))
   have c5:wr.cell? ⟨rb,off+k*6+5,none⟩=some (.int .i32 imm):=(hs4.cell (p:=⟨rb,off+k*6+5,none⟩) hrb).trans (hc 5 (by decide))
   have hrl:rb<wr.heap.size:=Nat.lt_of_lt_of_le hrb hs4.size
   have HPH:=Lib.hid hphi
   have HIN:=Lib.hid hins
   have HAR:=Lib.hid hargs
   have HTO:=Lib.hid hto
   have HA:=Lib.hid hA
   have HLN:=Lib.hid (show A.length+(1+((phis.flatMap (fun p:FPhi=>phi3 p.d)).length+((ins.flatMap (fun i:FIns=>in3 i.d)).length+(tm3 (FTerm.d ⟨kd,args,.slice aa args.length ac,tgt,.slice ta tgt.length tc,imm⟩)).length)))≤4000000000000000000 from by
    have e1:(bl3 (FBlk.d ⟨phis,.slice pa phis.length pc,ins,.slice na ins.length nc,⟨kd,args,.slice aa args.length ac,tgt,.slice ta tgt.length tc,imm⟩⟩)).length=1+((phis.flatMap (fun p:FPhi=>phi3 p.d)).length+((ins.flatMap (fun i:FIns=>in3 i.d)).length+(tm3 (FTerm.d ⟨kd,args,.slice aa args.length ac,tgt,.slice ta tgt.length tc,imm⟩)).length)):=by
     unfold bl3;simp[FBlk.d,List.flatMap_map];omega
    rw[←e1];exact hln)
   have HX:=Lib.hid (HeapIs.new wr #[.slice pa phis.length pc,.slice na ins.length nc,.int .i64 kd,.slice aa args.length ac,.slice ta tgt.length tc,.int .i32 imm] 57)
   obtain⟨wo,hwo⟩:∃ z,z=wr:=⟨_,rfl⟩
   subst hwo
   have HS4:=Lib.hid hs4
   have HS3:=Lib.hid hs
   have hA1:out++⟨#[10]⟩=⟨(A++[10]).toArray⟩:=by rw[HO.out];apply bytes_ext;rw[bytes_app]
   have HA1:=Lib.hid hA1
   clear hs hs4 hb1 hphi hins hargs hto hA hc hx hln hrb hA1 hout
   go_wp2_with fail
   clear c0 c1 c2 c3 c4 c5 hrl hbc hbl1
   rw[HA1.out]
   obtain⟨wx,hwx⟩:∃ z,wo.alloc (.cells #[.slice pa phis.length pc,.slice na ins.length nc,.int .i64 kd,.slice aa args.length ac,.slice ta tgt.length tc,.int .i32 imm] 57)=z:=⟨_,rfl⟩
   rw[hwx]at HX ⊢
   have HSX:=Lib.hid (show Since wo wx from by rw[←hwx];exact (Since.refl _).alloc _)
   clear hwx
   obtain⟨A1,hA1⟩:∃ A1,A++[10]=A1:=⟨_,rfl⟩
   have hA1l:A1.length=A.length+1:=by rw[←hA1,List.length_append];rfl
   have HLN1:=Lib.hid (show A1.length+((phis.flatMap (fun p:FPhi=>phi3 p.d)).length+((ins.flatMap (fun i:FIns=>in3 i.d)).length+(tm3 (FTerm.d ⟨kd,args,.slice aa args.length ac,tgt,.slice ta tgt.length tc,imm⟩)).length))≤4000000000000000000 from by have:=HLN.out;omega)
   rw[hA1]
   have HAA:=Lib.hid hA1
   clear hA1 hA1l HLN HA1
   go_loopw [3,6] (fun so io wr=>∃ (j:Nat) (out:ByteArray),out=⟨(A1++(phis.take j).flatMap (fun p:FPhi=>phi3 p.d)).toArray⟩∧so=.string out∧io=.int .i64 j∧j≤phis.length∧Since wx wr) (fun _ io _=>phis.length-(intOf io).toNat)
   case atStart=>exact⟨0,_,by simp,rfl,rfl,Nat.zero_le _,Since.refl _⟩
   case round =>
    obtain⟨j,o2,hout,rfl,rfl,hj,hs⟩:=hrel
    have hx1:=HX.out.keep hs
    have hxc:wr.cell? ⟨wo.heap.size,0,none⟩=some (.slice pa phis.length pc):=hx1.cell 0
    have hxl:=hx1.lt
    have HSI:=Lib.hid hs
    have HO2:=Lib.hid hout
    have hso2:o2.size≤4000000000000000000:=by
     have h1:=flat_take (fun p:FPhi=>phi3 p.d) phis j
     have:=HLN1.out
     rw[hout,bs_size,List.length_append];omega
    clear hout
    by_cases hjl:j<phis.length
    ·obtain⟨pb,po,p,rfl,hpb,hpx,hpc,hpin⟩:=RowIn.at HPH.out hjl
     have HPR:=Lib.hid (HXR.out.phis p (List.mem_of_getElem? hpx))
     have hpn:=flat_take (fun p:FPhi=>phi3 p.d) phis (j+1)
     rw[flat_next (fun p:FPhi=>phi3 p.d) hpx,List.length_append]at hpn
     have HPX:=Lib.hid (flat_next (fun p:FPhi=>phi3 p.d) hpx)
     obtain⟨dst,pins,pinv⟩:=p
     replace hpin:PairsIn w pinv pins:=hpin
     obtain⟨ia,ic,e,hmm⟩:=RowIn.shape hpin
     obtain rfl:pinv=.slice ia pins.length ic:=e
     unfold maxLen at hmm
     have hphi:phi3 (FPhi.d ⟨dst,pins,.slice ia pins.length ic⟩)=[112,104,105,32]++(d3 dst++pins.flatMap pair3):=rfl
     rw[hphi]at hpn
     simp only[List.length_append,List.length_cons,List.length_nil]at hpn
     have HLN2:=Lib.hid (show (A1++(phis.take j).flatMap (fun p:FPhi=>phi3 p.d)).length+(4+((d3 dst).length+(pins.flatMap pair3).length))≤4000000000000000000 from by have:=HLN1.out;rw[List.length_append];omega)
     have hsw:=HS4.out.trans (HSX.out.trans hs)
     have d0:wr.cell? ⟨pb,po+j*2,none⟩=some (.int .i64 dst):=(hsw.cell (p:=⟨pb,po+j*2+0,none⟩) hpb).trans (hpc 0 (by decide))
     have hrl:pb<wr.heap.size:=Nat.lt_of_lt_of_le hpb hsw.size
     have HD1:=Lib.hid (hpc 1 (by decide))
     have HPB:=Lib.hid hpb
     have HPI:=Lib.hid hpin
     obtain⟨z7,hz7⟩:∃ z:ByteArray,⟨(d3 dst).toArray⟩=z:=⟨_,rfl⟩
     have hcz7:=fun W=>digits_any dst W HPR.out.1
     rw[hz7]at hcz7
     have HCz7:=Lib.hid hcz7
     have hsz7:z7.size≤1000000:=by rw[←hz7,bs_size];have:=d3_len dst HPR.out.1;omega
     clear hcz7
     have hA2:o2++⟨#[112,104,105,32]⟩++z7=⟨((A1++(phis.take j).flatMap (fun p:FPhi=>phi3 p.d))++([112,104,105,32]++d3 dst)).toArray⟩:=by
      rw[HO2.out,←hz7];apply bytes_ext;rw[bytes_app,bytes_app];simp
     have HA2:=Lib.hid hA2
     obtain⟨A2,hA2e⟩:∃ A2,(A1++(phis.take j).flatMap (fun p:FPhi=>phi3 p.d))++([112,104,105,32]++d3 dst)=A2:=⟨_,rfl⟩
     have hA2l:A2.length=(A1++(phis.take j).flatMap (fun p:FPhi=>phi3 p.d)).length+(4+(d3 dst).length):=by rw[←hA2e];simp only[List.length_append,List.length_cons,List.length_nil]
     rw[hA2e]at HA2
     have HA2E:=Lib.hid hA2e
     have HLN3:=Lib.hid (show A2.length+(pins.flatMap pair3).length≤4000000000000000000 from by have:=HLN2.out;omega)
     clear hz7 hA2 hA2e hA2l hpc hpin hpx hphi hpn hs hsw hpb
     go_wp2_with fail
     refine (HCz7.out _).mono ?_
     rintro e w3 ⟨rfl,hs3⟩
     clear hxc hxl d0 hrl
     have HSJ:=Lib.hid (HSI.out.trans hs3)
     clear hs3 hx1 HSI
     go_wp2_with fail
     go_loopw [3,7] (fun so io wr=>∃ (m:Nat) (out:ByteArray),out=⟨(A2++(pins.take m).flatMap pair3).toArray⟩∧so=.string out∧io=.int .i64 m∧m≤pins.length∧Since wx wr) (fun _ io _=>pins.length-(intOf io).toNat)
     case atStart=>exact⟨0,_,by rw[List.take_zero,List.flatMap_nil,List.append_nil];exact HA2.out,rfl,rfl,Nat.zero_le _,HSJ.out⟩
     case round =>
      obtain⟨m,out,hout,rfl,rfl,hm,hs⟩:=hrel
      have hx1:=HX.out.keep hs
      have hxc:wr.cell? ⟨wo.heap.size,0,none⟩=some (.slice (some ⟨pb,po,none⟩) phis.length pc):=hx1.cell 0
      have hxl:=hx1.lt
      have hsw:=HS4.out.trans (HSX.out.trans hs)
      have d1:wr.cell? ⟨pb,po+j*2+1,none⟩=some (.slice ia pins.length ic):=(hsw.cell (p:=⟨pb,po+j*2+1,none⟩) HPB.out).trans HD1.out
      have hrl:pb<wr.heap.size:=Nat.lt_of_lt_of_le HPB.out hsw.size
      have HSI:=Lib.hid hs
      have HSW:=Lib.hid hsw
      have HO3:=Lib.hid hout
      have hso3:out.size≤4000000000000000000:=by
       have h1:=flat_take pair3 pins m
       have:=HLN3.out
       rw[hout,bs_size,List.length_append];omega
      clear hx1 hs hsw hout
      by_cases hml:m<pins.length
      ·obtain⟨zb,zo,y,rfl,hzb,hy,hyc,_⟩:=RowIn.at HPI.out hml
       obtain⟨fr,vl⟩:=y
       have HRG:=Lib.hid (HPR.out.2 _ (List.mem_of_getElem? hy))
       have HE0:=Lib.hid (hyc 0 (by decide))
       have HE1:=Lib.hid (hyc 1 (by decide))
       have HZB:=Lib.hid hzb
       obtain⟨z0,hz0⟩:∃ z:ByteArray,⟨(d3 fr).toArray⟩=z:=⟨_,rfl⟩
       have hcz0:=fun W=>digits_any fr W HRG.out.1
       rw[hz0]at hcz0
       have HCz0:=Lib.hid hcz0
       have hsz0:z0.size≤1000000:=by rw[←hz0,bs_size];have:=d3_len fr HRG.out.1;omega
       clear hcz0
       obtain⟨z1,hz1⟩:∃ z:ByteArray,⟨(d3 vl).toArray⟩=z:=⟨_,rfl⟩
       have hcz1:=fun W=>digits_any vl W HRG.out.2
       rw[hz1]at hcz1
       have HCz1:=Lib.hid hcz1
       have hsz1:z1.size≤1000000:=by rw[←hz1,bs_size];have:=d3_len vl HRG.out.2;omega
       clear hcz1
       have HNXT:=Lib.hid (show out++z0++⟨#[58]⟩++z1=⟨(A2++(pins.take (m+1)).flatMap pair3).toArray⟩ from by
        rw[HO3.out,←hz0,←hz1,flat_next pair3 hy]
        apply bytes_ext
        rw[bytes_app,bytes_app,bytes_app]
        simp[pair3])
       clear hz0 hz1 hy hyc hzb
       go_wp2_with fail
       clear hxc hxl d1 hrl
       refine wp_region_since_tail 26 rfl (by decide +kernel) (by decide +kernel) (by decide +kernel) (by decide)
        [Is (.string out),Is (.pointer (some ⟨wo.heap.size,0,none⟩)),Is (.slice (some ⟨pb,po,none⟩) phis.length pc),Is (.int .i64 j),Is (.pointer (some ⟨pb,po+j*2,none⟩)),Is (.pointer (some ⟨pb,po+j*2+1,none⟩)),Is (.slice (some ⟨zb,zo,none⟩) pins.length ic),Is (.int .i64 m),Is (.pointer (some ⟨zb,zo+m*2,none⟩)),Is (.pointer (some ⟨zb,zo+m*2,none⟩)),Is (.int .i64 fr),Is (.string z0),Is (.string (out++z0)),Is (.string (out++z0++⟨#[58]⟩)),Is (.pointer (some ⟨wo.heap.size,0,none⟩)),Is (.slice (some ⟨pb,po,none⟩) phis.length pc),Is (.int .i64 j),Is (.pointer (some ⟨pb,po+j*2,none⟩)),Is (.pointer (some ⟨pb,po+j*2+1,none⟩)),Is (.slice (some ⟨zb,zo,none⟩) pins.length ic),Is (.int .i64 m),Is (.pointer (some ⟨zb,zo+m*2,none⟩)),Is (.pointer (some ⟨zb,zo+m*2+1,none⟩)),Is (.int .i64 vl),Is (.string z1),Is (.string (out++z0++⟨#[58]⟩++z1))]
        (by repeat (first | exact trivial | refine⟨Is.stable _,?_⟩ | refine⟨IsNums.stable _ _,?_⟩ | refine⟨IsRows.stable _ _,?_⟩)) ⟨?_,?_,?_,?_,?_,?_,?_,?_,?_,?_,?_,?_,?_,?_,?_,?_,?_,?_,?_,?_,?_,?_,?_,?_,?_,?_,trivial⟩ ?_
       all_goals
        intro vs w9 hs hk
        try intro _
        simp only[List.take,List.drop,putAll,Act.put,Knows,KnowsAll,nthF,Is,List.setIfInBounds_toArray,List.set_cons_zero,List.set_cons_succ,Nat.reduceAdd]at hk ⊢
        try simp only[hk]
       ·go_wp2
        exact⟨_,rfl,rfl,Since.refl _⟩
       ·go_wp2
        exact⟨_,rfl,rfl,Since.refl _⟩
       ·have hq:=(HX.out.keep HSI.out).keep hs
        have hqc:w9.cell? ⟨wo.heap.size,0,none⟩=some (.slice (some ⟨pb,po,none⟩) phis.length pc):=hq.cell 0
        have hql:=hq.lt
        go_wp2
        exact⟨_,rfl,rfl,Since.refl _⟩
       ·go_wp2
        exact⟨_,rfl,rfl,Since.refl _⟩
       ·go_wp2
        exact⟨_,rfl,(by first | rfl | (show Value.pointer _=_;simp[go_sem])),Since.refl _⟩
       ·go_wp2
        exact⟨_,rfl,(by first | rfl | (show Value.pointer _=_;simp[go_sem])),Since.refl _⟩
       ·have hqc:w9.cell? ⟨pb,po+j*2+1,none⟩=some (.slice (some ⟨zb,zo,none⟩) pins.length ic):=((HSW.out.trans hs).cell (p:=⟨pb,po+j*2+1,none⟩) HPB.out).trans HD1.out
        have hql:pb<w9.heap.size:=Nat.lt_of_lt_of_le HPB.out (HSW.out.trans hs).size
        go_wp2
        exact⟨_,rfl,rfl,Since.refl _⟩
       ·go_wp2
        exact⟨_,rfl,rfl,Since.refl _⟩
       ·go_wp2
        exact⟨_,rfl,(by first | rfl | (show Value.pointer _=_;simp[go_sem])),Since.refl _⟩
       ·go_wp2
        exact⟨_,rfl,(by first | rfl | (show Value.pointer _=_;simp[go_sem])),Since.refl _⟩
       ·have hqc:w9.cell? ⟨zb,zo+m*2,none⟩=some (.int .i64 fr):=((HSW.out.trans hs).cell (p:=⟨zb,zo+m*2,none⟩) HZB.out).trans HE0.out
        have hql:zb<w9.heap.size:=Nat.lt_of_lt_of_le HZB.out (HSW.out.trans hs).size
        go_wp2
        exact⟨_,rfl,rfl,Since.refl _⟩
       ·go_wp2_with fail
        refine (HCz0.out _).mono ?_
        rintro e w2 ⟨rfl,hs2⟩
        go_wp2
        exact⟨_,rfl,rfl,hs2⟩
       ·go_wp2
        exact⟨_,rfl,rfl,Since.refl _⟩
       ·go_wp2
        exact⟨_,rfl,rfl,Since.refl _⟩
       ·go_wp2
        exact⟨_,rfl,rfl,Since.refl _⟩
       ·have hq:=(HX.out.keep HSI.out).keep hs
        have hqc:w9.cell? ⟨wo.heap.size,0,none⟩=some (.slice (some ⟨pb,po,none⟩) phis.length pc):=hq.cell 0
        have hql:=hq.lt
        go_wp2
        exact⟨_,rfl,rfl,Since.refl _⟩
       ·go_wp2
        exact⟨_,rfl,rfl,Since.refl _⟩
       ·go_wp2
        exact⟨_,rfl,(by first | rfl | (show Value.pointer _=_;simp[go_sem])),Since.refl _⟩
       ·go_wp2
        exact⟨_,rfl,(by first | rfl | (show Value.pointer _=_;simp[go_sem])),Since.refl _⟩
       ·have hqc:w9.cell? ⟨pb,po+j*2+1,none⟩=some (.slice (some ⟨zb,zo,none⟩) pins.length ic):=((HSW.out.trans hs).cell (p:=⟨pb,po+j*2+1,none⟩) HPB.out).trans HD1.out
        have hql:pb<w9.heap.size:=Nat.lt_of_lt_of_le HPB.out (HSW.out.trans hs).size
        go_wp2
        exact⟨_,rfl,rfl,Since.refl _⟩
       ·go_wp2
        exact⟨_,rfl,rfl,Since.refl _⟩
       ·go_wp2
        exact⟨_,rfl,(by first | rfl | (show Value.pointer _=_;simp[go_sem])),Since.refl _⟩
       ·go_wp2
        exact⟨_,rfl,(by first | rfl | (show Value.pointer _=_;simp[go_sem])),Since.refl _⟩
       ·have hqc:w9.cell? ⟨zb,zo+m*2+1,none⟩=some (.int .i64 vl):=((HSW.out.trans hs).cell (p:=⟨zb,zo+m*2+1,none⟩) HZB.out).trans HE1.out
        have hql:zb<w9.heap.size:=Nat.lt_of_lt_of_le HZB.out (HSW.out.trans hs).size
        go_wp2
        exact⟨_,rfl,rfl,Since.refl _⟩
       ·go_wp2_with fail
        refine (HCz1.out _).mono ?_
        rintro e w2 ⟨rfl,hs2⟩
        go_wp2
        exact⟨_,rfl,rfl,hs2⟩
       ·go_wp2
        exact⟨_,rfl,rfl,Since.refl _⟩
       ·have HSZ:=Lib.hid (HSI.out.trans hs)
        clear hs hk
        go_wp2
        go_roundw
        case rel=>exact⟨m+1,_,HNXT.out,rfl,by go_num,by omega,HSZ.out⟩
        case measure=>simp[intOf];omega
      ·obtain rfl:pins.length=m:=by omega
       rw[List.take_length]at HO3
       have HP3:=Lib.hid (show out=⟨(A1++(phis.take (j+1)).flatMap (fun p:FPhi=>phi3 p.d)).toArray⟩ from by
        rw[HO3.out,HPX.out,←HA2E.out]
        apply bytes_ext
        simp[phi3,FPhi.d])
       go_wp2
       go_roundw
       case rel=>exact⟨j+1,_,HP3.out,rfl,by go_num,by omega,HSI.out⟩
       case measure=>simp[intOf];omega
    ·obtain rfl:phis.length=j:=by omega
     rw[List.take_length]at HO2
     obtain⟨A3,hA3⟩:∃ A3,A1++phis.flatMap (fun p:FPhi=>phi3 p.d)=A3:=⟨_,rfl⟩
     have hA3l:A3.length=A1.length+(phis.flatMap (fun p:FPhi=>phi3 p.d)).length:=by rw[←hA3,List.length_append]
     rw[hA3]at HO2
     have HA3:=Lib.hid hA3
     have HLN2:=Lib.hid (show A3.length+((ins.flatMap (fun i:FIns=>in3 i.d)).length+(tm3 (FTerm.d ⟨kd,args,.slice aa args.length ac,tgt,.slice ta tgt.length tc,imm⟩)).length)≤4000000000000000000 from by have:=HLN1.out;omega)
     clear hA3 hA3l HLN1 hx1 hs
     go_wp2_with fail
     clear hxc hxl
     go_loopw [3,8] (fun so io wr=>∃ (j:Nat) (out:ByteArray),out=⟨(A3++(ins.take j).flatMap (fun i:FIns=>in3 i.d)).toArray⟩∧so=.string out∧io=.int .i64 j∧j≤ins.length∧Since wx wr) (fun _ io _=>ins.length-(intOf io).toNat)
     case atStart=>exact⟨0,_,by rw[HO2.out];simp,rfl,rfl,Nat.zero_le _,HSI.out⟩
     case round =>
      obtain⟨j,o3,hout,rfl,rfl,hj,hs⟩:=hrel
      have hx1:=HX.out.keep hs
      have hxc1:wr.cell? ⟨wo.heap.size,1,none⟩=some (.slice na ins.length nc):=hx1.cell 1
      have hxl:=hx1.lt
      have HSI:=Lib.hid hs
      have HO3:=Lib.hid hout
      have hso3:o3.size≤4000000000000000000:=by
       have h1:=flat_take (fun i:FIns=>in3 i.d) ins j
       have:=HLN2.out
       rw[hout,bs_size,List.length_append];omega
      have hsw:=HS4.out.trans (HSX.out.trans hs)
      have HSW:=Lib.hid hsw
      clear hout
      by_cases hjl:j<ins.length
      ·obtain⟨nb,no,x,rfl,hnb,hnx,hnc,hnin⟩:=RowIn.at HIN.out hjl
       have HNR:=Lib.hid (HXR.out.ins x (List.mem_of_getElem? hnx))
       have HNN:=Lib.hid (flat_next (fun i:FIns=>in3 i.d) hnx)
       obtain⟨op,dst,two,iargs,iav,iimm⟩:=x
       replace hnin:Ints w iav iargs:=hnin
       obtain⟨ia,ic,e⟩:=nums_lenI hnin
       obtain rfl:iav=.slice ia iargs.length ic:=e
       have HN0:=Lib.hid (hnc 0 (by decide))
       have HN1:=Lib.hid (hnc 1 (by decide))
       have HN2:=Lib.hid (hnc 2 (by decide))
       have HN3:=Lib.hid (hnc 3 (by decide))
       have HN4:=Lib.hid (hnc 4 (by decide))
       have HNB:=Lib.hid hnb
       have hi1:=HNR.out.imm.1
       have hi2:=HNR.out.imm.2
       dsimp only at hi1 hi2
       have hal:iargs.length≤1000000:=HNR.out.args.2
       obtain⟨y0,hy0⟩:∃ z:ByteArray,⟨(d3 op).toArray⟩=z:=⟨_,rfl⟩
       have hcy0:=fun W=>digits_any op W HNR.out.op
       rw[hy0]at hcy0
       have HCy0:=Lib.hid hcy0
       have hsy0:y0.size≤1000000:=by rw[←hy0,bs_size];have:=d3_len op HNR.out.op;omega
       clear hcy0
       obtain⟨y1,hy1⟩:∃ z:ByteArray,⟨(d3 dst).toArray⟩=z:=⟨_,rfl⟩
       have hcy1:=fun W=>digits_any dst W HNR.out.dst
       rw[hy1]at hcy1
       have HCy1:=Lib.hid hcy1
       have hsy1:y1.size≤1000000:=by rw[←hy1,bs_size];have:=d3_len dst HNR.out.dst;omega
       clear hcy1
       obtain⟨y2,hy2⟩:∃ z:ByteArray,⟨(d3 two).toArray⟩=z:=⟨_,rfl⟩
       have hcy2:=fun W=>digits_any two W HNR.out.two
       rw[hy2]at hcy2
       have HCy2:=Lib.hid hcy2
       have hsy2:y2.size≤1000000:=by rw[←hy2,bs_size];have:=d3_len two HNR.out.two;omega
       clear hcy2
       obtain⟨y3,hy3⟩:∃ z:ByteArray,⟨(row3 iargs).toArray⟩=z:=⟨_,rfl⟩
       have HCy3:=Lib.hid (fun (W:World) (hW:Since w W)=>(show Calls Tryz.prog 82 #[.slice ia iargs.length ic] W (StrQ y3 W) from by rw[←hy3];exact row3_any _ iargs W (Nums.keep hnin hW) HNR.out.args.1 (by have:=d3s_len iargs HNR.out.args.1;have:=HNR.out.args.2;omega)))
       have hsy3:y3.size≤40000000:=by rw[←hy3,bs_size];have:=d3s_len iargs HNR.out.args.1;have:=HNR.out.args.2;unfold row3;simp only[List.length_cons,List.length_append,List.length_nil];omega
       obtain⟨y4,hy4⟩:∃ z:ByteArray,⟨(d3 iimm).toArray⟩=z:=⟨_,rfl⟩
       have hcy4:=fun W=>digits_any iimm W (in63_32 HNR.out.imm)
       rw[hy4]at hcy4
       have HCy4:=Lib.hid hcy4
       have hsy4:y4.size≤1000000:=by rw[←hy4,bs_size];have:=d3_len iimm (in63_32 HNR.out.imm);omega
       clear hcy4
       have HNXT:=Lib.hid (show o3++⟨#[59]⟩++y0++y1++y2++y3++y4=⟨(A3++(ins.take (j+1)).flatMap (fun i:FIns=>in3 i.d)).toArray⟩ from by
        rw[HO3.out,←hy0,←hy1,←hy2,←hy3,←hy4,HNN.out]
        apply bytes_ext
        repeat rw[bytes_app]
        simp[in3,FIns.d])
       clear hy0 hy1 hy2 hy3 hy4 hnc hnx hnin hs hsw hx1 hnb
       go_wp2_with fail
       clear hxc1 hxl
       refine wp_region_since_tail 43 rfl (by decide +kernel) (by decide +kernel) (by decide +kernel) (by decide)
        (Is (.string o3)::Is (.string (o3++⟨#[59]⟩))::Is (.pointer (some ⟨wo.heap.size,1,none⟩))::Is (.slice (some ⟨nb,no,none⟩) ins.length nc)::Is (.int .i64 j)::Is (.pointer (some ⟨nb,no+j*5,none⟩))::Is (.pointer (some ⟨nb,no+j*5,none⟩))::Is (.int .i64 op)::Is (.string y0)::Is (.string (o3++⟨#[59]⟩++y0))::Is (.pointer (some ⟨wo.heap.size,1,none⟩))::Is (.slice (some ⟨nb,no,none⟩) ins.length nc)::Is (.int .i64 j)::Is (.pointer (some ⟨nb,no+j*5,none⟩))::Is (.pointer (some ⟨nb,no+j*5+1,none⟩))::Is (.int .i64 dst)::Is (.string y1)::Is (.string (o3++⟨#[59]⟩++y0++y1))::Is (.pointer (some ⟨wo.heap.size,1,none⟩))::Is (.slice (some ⟨nb,no,none⟩) ins.length nc)::Is (.int .i64 j)::Is (.pointer (some ⟨nb,no+j*5,none⟩))::Is (.pointer (some ⟨nb,no+j*5+2,none⟩))::Is (.int .i64 two)::Is (.string y2)::Is (.string (o3++⟨#[59]⟩++y0++y1++y2))::Is (.pointer (some ⟨wo.heap.size,1,none⟩))::Is (.slice (some ⟨nb,no,none⟩) ins.length nc)::Is (.int .i64 j)::Is (.pointer (some ⟨nb,no+j*5,none⟩))::Is (.pointer (some ⟨nb,no+j*5+3,none⟩))::Is (.slice ia iargs.length ic)::Is (.string y3)::Is (.string (o3++⟨#[59]⟩++y0++y1++y2++y3))::Is (.pointer (some ⟨wo.heap.size,1,none⟩))::Is (.slice (some ⟨nb,no,none⟩) ins.length nc)::Is (.int .i64 j)::Is (.pointer (some ⟨nb,no+j*5,none⟩))::Is (.pointer (some ⟨nb,no+j*5+4,none⟩))::Is (.int .i32 iimm)::Is (.int .i64 iimm)::Is (.string y4)::Is (.string (o3++⟨#[59]⟩++y0++y1++y2++y3++y4))::[])
        (by repeat (first | exact trivial | refine⟨Is.stable _,?_⟩ | refine⟨IsNums.stable _ _,?_⟩ | refine⟨IsRows.stable _ _,?_⟩)) ⟨?_,?_,?_,?_,?_,?_,?_,?_,?_,?_,?_,?_,?_,?_,?_,?_,?_,?_,?_,?_,?_,?_,?_,?_,?_,?_,?_,?_,?_,?_,?_,?_,?_,?_,?_,?_,?_,?_,?_,?_,?_,?_,?_,trivial⟩ ?_
       all_goals
        intro vs w9 hs hk
        try intro _
        simp only[List.take,List.drop,putAll,Act.put,Knows,KnowsAll,nthF,Is,List.setIfInBounds_toArray,List.set_cons_zero,List.set_cons_succ,Nat.reduceAdd]at hk ⊢
        try simp only[hk]
       ·go_wp2
        exact⟨_,rfl,rfl,Since.refl _⟩
       ·go_wp2
        exact⟨_,rfl,rfl,Since.refl _⟩
       ·go_wp2
        exact⟨_,rfl,rfl,Since.refl _⟩
       ·have hq:=(HX.out.keep HSI.out).keep hs
        have hqc:w9.cell? ⟨wo.heap.size,1,none⟩=some (.slice (some ⟨nb,no,none⟩) ins.length nc):=hq.cell 1
        have hql:=hq.lt
        go_wp2
        exact⟨_,rfl,rfl,Since.refl _⟩
       ·go_wp2
        exact⟨_,rfl,rfl,Since.refl _⟩
       ·go_wp2
        exact⟨_,rfl,(by first | rfl | (show Value.pointer _=_;simp[go_sem])),Since.refl _⟩
       ·go_wp2
        exact⟨_,rfl,(by first | rfl | (show Value.pointer _=_;simp[go_sem])),Since.refl _⟩
       ·have hqc:w9.cell? ⟨nb,no+j*5,none⟩=some (.int .i64 op):=((HSW.out.trans hs).cell (p:=⟨nb,no+j*5+0,none⟩) HNB.out).trans HN0.out
        have hql:nb<w9.heap.size:=Nat.lt_of_lt_of_le HNB.out (HSW.out.trans hs).size
        go_wp2
        exact⟨_,rfl,rfl,Since.refl _⟩
       ·go_wp2_with fail
        refine (HCy0.out _).mono ?_
        rintro e w2 ⟨rfl,hs2⟩
        go_wp2
        exact⟨_,rfl,rfl,hs2⟩
       ·go_wp2
        exact⟨_,rfl,rfl,Since.refl _⟩
       ·go_wp2
        exact⟨_,rfl,rfl,Since.refl _⟩
       ·have hq:=(HX.out.keep HSI.out).keep hs
        have hqc:w9.cell? ⟨wo.heap.size,1,none⟩=some (.slice (some ⟨nb,no,none⟩) ins.length nc):=hq.cell 1
        have hql:=hq.lt
        go_wp2
        exact⟨_,rfl,rfl,Since.refl _⟩
       ·go_wp2
        exact⟨_,rfl,rfl,Since.refl _⟩
       ·go_wp2
        exact⟨_,rfl,(by first | rfl | (show Value.pointer _=_;simp[go_sem])),Since.refl _⟩
       ·go_wp2
        exact⟨_,rfl,(by first | rfl | (show Value.pointer _=_;simp[go_sem])),Since.refl _⟩
       ·have hqc:w9.cell? ⟨nb,no+j*5+1,none⟩=some (.int .i64 dst):=((HSW.out.trans hs).cell (p:=⟨nb,no+j*5+1,none⟩) HNB.out).trans HN1.out
        have hql:nb<w9.heap.size:=Nat.lt_of_lt_of_le HNB.out (HSW.out.trans hs).size
        go_wp2
        exact⟨_,rfl,rfl,Since.refl _⟩
       ·go_wp2_with fail
        refine (HCy1.out _).mono ?_
        rintro e w2 ⟨rfl,hs2⟩
        go_wp2
        exact⟨_,rfl,rfl,hs2⟩
       ·go_wp2
        exact⟨_,rfl,rfl,Since.refl _⟩
       ·go_wp2
        exact⟨_,rfl,rfl,Since.refl _⟩
       ·have hq:=(HX.out.keep HSI.out).keep hs
        have hqc:w9.cell? ⟨wo.heap.size,1,none⟩=some (.slice (some ⟨nb,no,none⟩) ins.length nc):=hq.cell 1
        have hql:=hq.lt
        go_wp2
        exact⟨_,rfl,rfl,Since.refl _⟩
       ·go_wp2
        exact⟨_,rfl,rfl,Since.refl _⟩
       ·go_wp2
        exact⟨_,rfl,(by first | rfl | (show Value.pointer _=_;simp[go_sem])),Since.refl _⟩
       ·go_wp2
        exact⟨_,rfl,(by first | rfl | (show Value.pointer _=_;simp[go_sem])),Since.refl _⟩
       ·have hqc:w9.cell? ⟨nb,no+j*5+2,none⟩=some (.int .i64 two):=((HSW.out.trans hs).cell (p:=⟨nb,no+j*5+2,none⟩) HNB.out).trans HN2.out
        have hql:nb<w9.heap.size:=Nat.lt_of_lt_of_le HNB.out (HSW.out.trans hs).size
        go_wp2
        exact⟨_,rfl,rfl,Since.refl _⟩
       ·go_wp2_with fail
        refine (HCy2.out _).mono ?_
        rintro e w2 ⟨rfl,hs2⟩
        go_wp2
        exact⟨_,rfl,rfl,hs2⟩
       ·go_wp2
        exact⟨_,rfl,rfl,Since.refl _⟩
       ·go_wp2
        exact⟨_,rfl,rfl,Since.refl _⟩
       ·have hq:=(HX.out.keep HSI.out).keep hs
        have hqc:w9.cell? ⟨wo.heap.size,1,none⟩=some (.slice (some ⟨nb,no,none⟩) ins.length nc):=hq.cell 1
        have hql:=hq.lt
        go_wp2
        exact⟨_,rfl,rfl,Since.refl _⟩
       ·go_wp2
        exact⟨_,rfl,rfl,Since.refl _⟩
       ·go_wp2
        exact⟨_,rfl,(by first | rfl | (show Value.pointer _=_;simp[go_sem])),Since.refl _⟩
       ·go_wp2
        exact⟨_,rfl,(by first | rfl | (show Value.pointer _=_;simp[go_sem])),Since.refl _⟩
       ·have hqc:w9.cell? ⟨nb,no+j*5+3,none⟩=some (.slice ia iargs.length ic):=((HSW.out.trans hs).cell (p:=⟨nb,no+j*5+3,none⟩) HNB.out).trans HN3.out
        have hql:nb<w9.heap.size:=Nat.lt_of_lt_of_le HNB.out (HSW.out.trans hs).size
        go_wp2
        exact⟨_,rfl,rfl,Since.refl _⟩
       ·have hsr:=(HSW.out.trans hs)
        go_wp2_with fail
        refine (HCy3.out _ hsr).mono ?_
        rintro e w2 ⟨rfl,hs2⟩
        go_wp2
        exact⟨_,rfl,rfl,hs2⟩
       ·go_wp2
        exact⟨_,rfl,rfl,Since.refl _⟩
       ·go_wp2
        exact⟨_,rfl,rfl,Since.refl _⟩
       ·have hq:=(HX.out.keep HSI.out).keep hs
        have hqc:w9.cell? ⟨wo.heap.size,1,none⟩=some (.slice (some ⟨nb,no,none⟩) ins.length nc):=hq.cell 1
        have hql:=hq.lt
        go_wp2
        exact⟨_,rfl,rfl,Since.refl _⟩
       ·go_wp2
        exact⟨_,rfl,rfl,Since.refl _⟩
       ·go_wp2
        exact⟨_,rfl,(by first | rfl | (show Value.pointer _=_;simp[go_sem])),Since.refl _⟩
       ·go_wp2
        exact⟨_,rfl,(by first | rfl | (show Value.pointer _=_;simp[go_sem])),Since.refl _⟩
       ·have hqc:w9.cell? ⟨nb,no+j*5+4,none⟩=some (.int .i32 iimm):=((HSW.out.trans hs).cell (p:=⟨nb,no+j*5+4,none⟩) HNB.out).trans HN4.out
        have hql:nb<w9.heap.size:=Nat.lt_of_lt_of_le HNB.out (HSW.out.trans hs).size
        go_wp2
        exact⟨_,rfl,rfl,Since.refl _⟩
       ·go_wp2
        exact⟨_,rfl,rfl,Since.refl _⟩
       ·go_wp2_with fail
        refine (HCy4.out _).mono ?_
        rintro e w2 ⟨rfl,hs2⟩
        go_wp2
        exact⟨_,rfl,rfl,hs2⟩
       ·go_wp2
        exact⟨_,rfl,rfl,Since.refl _⟩
       ·have HSZ:=Lib.hid (HSI.out.trans hs)
        clear hs hk
        go_wp2
        go_roundw
        case rel=>exact⟨j+1,_,HNXT.out,rfl,by go_num,by omega,HSZ.out⟩
        case measure=>simp[intOf];omega
      ·obtain rfl:ins.length=j:=by omega
       rw[List.take_length]at HO3
       have HTR:=Lib.hid HXR.out.term
       have hi1:=HTR.out.imm.1
       have hi2:=HTR.out.imm.2
       dsimp only at hi1 hi2
       have hal:args.length≤1000000:=HTR.out.ar.2
       have htl:tgt.length≤1000000:=HTR.out.tg.2
       obtain⟨v0,hv0⟩:∃ z:ByteArray,⟨(d3 kd).toArray⟩=z:=⟨_,rfl⟩
       have hcv0:=fun W=>digits_any kd W HTR.out.kd
       rw[hv0]at hcv0
       have HCv0:=Lib.hid hcv0
       have hsv0:v0.size≤1000000:=by rw[←hv0,bs_size];have:=d3_len kd HTR.out.kd;omega
       clear hcv0
       obtain⟨v1,hv1⟩:∃ z:ByteArray,⟨(row3 args).toArray⟩=z:=⟨_,rfl⟩
       have HCv1:=Lib.hid (fun (W:World) (hW:Since w W)=>(show Calls Tryz.prog 82 #[.slice aa args.length ac] W (StrQ v1 W) from by rw[←hv1];exact row3_any _ args W (Nums.keep HAR.out hW) HTR.out.ar.1 (by have:=d3s_len args HTR.out.ar.1;have:=HTR.out.ar.2;omega)))
       have hsv1:v1.size≤40000000:=by rw[←hv1,bs_size];have:=d3s_len args HTR.out.ar.1;have:=HTR.out.ar.2;unfold row3;simp only[List.length_cons,List.length_append,List.length_nil];omega
       obtain⟨v2,hv2⟩:∃ z:ByteArray,⟨(row3 tgt).toArray⟩=z:=⟨_,rfl⟩
       have HCv2:=Lib.hid (fun (W:World) (hW:Since w W)=>(show Calls Tryz.prog 82 #[.slice ta tgt.length tc] W (StrQ v2 W) from by rw[←hv2];exact row3_any _ tgt W (Nums.keep HTO.out hW) HTR.out.tg.1 (by have:=d3s_len tgt HTR.out.tg.1;have:=HTR.out.tg.2;omega)))
       have hsv2:v2.size≤40000000:=by rw[←hv2,bs_size];have:=d3s_len tgt HTR.out.tg.1;have:=HTR.out.tg.2;unfold row3;simp only[List.length_cons,List.length_append,List.length_nil];omega
       obtain⟨v3,hv3⟩:∃ z:ByteArray,⟨(d3 imm).toArray⟩=z:=⟨_,rfl⟩
       have hcv3:=fun W=>digits_any imm W (in63_32 HTR.out.imm)
       rw[hv3]at hcv3
       have HCv3:=Lib.hid hcv3
       have hsv3:v3.size≤1000000:=by rw[←hv3,bs_size];have:=d3_len imm (in63_32 HTR.out.imm);omega
       clear hcv3
       have HNXT:=Lib.hid (show o3++⟨#[124]⟩++v0++v1++v2++v3=⟨(d3 params++((blocks.map FBlk.d).take (k+1)).flatMap bl3).toArray⟩ from by
        rw[HO3.out,←hv0,←hv1,←hv2,←hv3,HNX.out,←List.append_assoc,HA.out,←HA3.out,←HAA.out]
        apply bytes_ext
        repeat rw[bytes_app]
        simp[bl3,tm3,FBlk.d,FTerm.d,List.flatMap_map])
       clear hv0 hv1 hv2 hv3 hs hsw hx1
       go_wp2_with fail
       clear hxc1 hxl
       refine wp_region_since_tail 23 rfl (by decide +kernel) (by decide +kernel) (by decide +kernel) (by decide)
        [Is (.string o3),Is (.string (o3++⟨#[124]⟩)),Is (.pointer (some ⟨wo.heap.size,2,none⟩)),Is (.pointer (some ⟨wo.heap.size,2,none⟩)),Is (.int .i64 kd),Is (.string v0),Is (.string (o3++⟨#[124]⟩++v0)),Is (.pointer (some ⟨wo.heap.size,2,none⟩)),Is (.pointer (some ⟨wo.heap.size,3,none⟩)),Is (.slice aa args.length ac),Is (.string v1),Is (.string (o3++⟨#[124]⟩++v0++v1)),Is (.pointer (some ⟨wo.heap.size,2,none⟩)),Is (.pointer (some ⟨wo.heap.size,4,none⟩)),Is (.slice ta tgt.length tc),Is (.string v2),Is (.string (o3++⟨#[124]⟩++v0++v1++v2)),Is (.pointer (some ⟨wo.heap.size,2,none⟩)),Is (.pointer (some ⟨wo.heap.size,5,none⟩)),Is (.int .i32 imm),Is (.int .i64 imm),Is (.string v3),Is (.string (o3++⟨#[124]⟩++v0++v1++v2++v3))]
        (by repeat (first | exact trivial | refine⟨Is.stable _,?_⟩ | refine⟨IsNums.stable _ _,?_⟩ | refine⟨IsRows.stable _ _,?_⟩)) ⟨?_,?_,?_,?_,?_,?_,?_,?_,?_,?_,?_,?_,?_,?_,?_,?_,?_,?_,?_,?_,?_,?_,?_,trivial⟩ ?_
       all_goals
        intro vs w9 hs hk
        try intro _
        simp only[List.take,List.drop,putAll,Act.put,Knows,KnowsAll,nthF,Is,List.setIfInBounds_toArray,List.set_cons_zero,List.set_cons_succ,Nat.reduceAdd]at hk ⊢
        try simp only[hk]
       ·go_wp2
        exact⟨_,rfl,rfl,Since.refl _⟩
       ·go_wp2
        exact⟨_,rfl,rfl,Since.refl _⟩
       ·go_wp2
        exact⟨_,rfl,(by first | rfl | (show Value.pointer _=_;simp[go_sem])),Since.refl _⟩
       ·go_wp2
        exact⟨_,rfl,(by first | rfl | (show Value.pointer _=_;simp[go_sem])),Since.refl _⟩
       ·have hq:=(HX.out.keep HSI.out).keep hs
        have hqc:w9.cell? ⟨wo.heap.size,2,none⟩=some (.int .i64 kd):=hq.cell 2
        have hql:=hq.lt
        go_wp2
        exact⟨_,rfl,rfl,Since.refl _⟩
       ·go_wp2_with fail
        refine (HCv0.out _).mono ?_
        rintro e w2 ⟨rfl,hs2⟩
        go_wp2
        exact⟨_,rfl,rfl,hs2⟩
       ·go_wp2
        exact⟨_,rfl,rfl,Since.refl _⟩
       ·go_wp2
        exact⟨_,rfl,(by first | rfl | (show Value.pointer _=_;simp[go_sem])),Since.refl _⟩
       ·go_wp2
        exact⟨_,rfl,(by first | rfl | (show Value.pointer _=_;simp[go_sem])),Since.refl _⟩
       ·have hq:=(HX.out.keep HSI.out).keep hs
        have hqc:w9.cell? ⟨wo.heap.size,3,none⟩=some (.slice aa args.length ac):=hq.cell 3
        have hql:=hq.lt
        go_wp2
        exact⟨_,rfl,rfl,Since.refl _⟩
       ·have hsr:=(HSW.out.trans hs)
        go_wp2_with fail
        refine (HCv1.out _ hsr).mono ?_
        rintro e w2 ⟨rfl,hs2⟩
        go_wp2
        exact⟨_,rfl,rfl,hs2⟩
       ·go_wp2
        exact⟨_,rfl,rfl,Since.refl _⟩
       ·go_wp2
        exact⟨_,rfl,(by first | rfl | (show Value.pointer _=_;simp[go_sem])),Since.refl _⟩
       ·go_wp2
        exact⟨_,rfl,(by first | rfl | (show Value.pointer _=_;simp[go_sem])),Since.refl _⟩
       ·have hq:=(HX.out.keep HSI.out).keep hs
        have hqc:w9.cell? ⟨wo.heap.size,4,none⟩=some (.slice ta tgt.length tc):=hq.cell 4
        have hql:=hq.lt
        go_wp2
        exact⟨_,rfl,rfl,Since.refl _⟩
       ·have hsr:=(HSW.out.trans hs)
        go_wp2_with fail
        refine (HCv2.out _ hsr).mono ?_
        rintro e w2 ⟨rfl,hs2⟩
        go_wp2
        exact⟨_,rfl,rfl,hs2⟩
       ·go_wp2
        exact⟨_,rfl,rfl,Since.refl _⟩
       ·go_wp2
        exact⟨_,rfl,(by first | rfl | (show Value.pointer _=_;simp[go_sem])),Since.refl _⟩
       ·go_wp2
        exact⟨_,rfl,(by first | rfl | (show Value.pointer _=_;simp[go_sem])),Since.refl _⟩
       ·have hq:=(HX.out.keep HSI.out).keep hs
        have hqc:w9.cell? ⟨wo.heap.size,5,none⟩=some (.int .i32 imm):=hq.cell 5
        have hql:=hq.lt
        go_wp2
        exact⟨_,rfl,rfl,Since.refl _⟩
       ·go_wp2
        exact⟨_,rfl,rfl,Since.refl _⟩
       ·go_wp2_with fail
        refine (HCv3.out _).mono ?_
        rintro e w2 ⟨rfl,hs2⟩
        go_wp2
        exact⟨_,rfl,rfl,hs2⟩
       ·go_wp2
        exact⟨_,rfl,rfl,Since.refl _⟩
       ·have HSZ:=Lib.hid ((HS3.out.trans HSX.out).trans (HSI.out.trans hs))
        clear hs hk
        go_wp2
        go_roundw
        case rel=>exact⟨k+1,_,HNXT.out,rfl,by go_num,by omega,HSZ.out⟩
        case measure=>simp[intOf];omega
  ·obtain rfl:blocks.length=k:=by omega
   have HS9:=Lib.hid (HS1.out.trans HSR.out)
   have HFI:=Lib.hid (show out=⟨(d3 params++(blocks.map FBlk.d).flatMap bl3).toArray⟩ from by rw[HO.out,List.take_of_length_le (by rw[List.length_map];exact Nat.le_refl _)])
   clear hout hs hb1
   go_wp2
   go_ret
   exact⟨by rw[HFI.out];rfl,HS9.out⟩
end Go.Proofs.YtmhojfpidedjeaaGreatDoor
