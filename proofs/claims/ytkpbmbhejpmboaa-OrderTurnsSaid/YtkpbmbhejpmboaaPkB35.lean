/- jacquardref12.Top: a number above all registers of machine code. jacquardref12.Naive: what stands in memory. jacquardref12.Naive: its code in pieces, and its frame. jacquardref12.Naive: what a block begins with. -/
import Derived.Test.YtkpbmbhejpmboaaPkB10
import Derived.Test.YtkpbmbhejpmboaaPkB27
import Derived.Test.YtkpbmbhejpmboaaPkB32
import Derived.Test.YtkpbmbhejpmboaaPkB33
import Derived.Test.YtkpbmbhejpmboaaPkB34
namespace Go.Proofs.Ytkpbmbhejpmboaa
open Go.RowKit
set_option linter.unusedVariables false
structure BBelow (t:Int) (b:MBlkV):Prop where
 dst:∀ p∈b.phis,p.dst<t
 val:∀ p∈b.phis,∀ y∈p.ins,y.2<t
 ins:∀ x∈b.ins,∀ r∈takes7 x.m++makes7 x.m,r<t
 need:∀ r∈needs b.fin,r<t
theorem needs_in {n : Nat} {e : EndV} (h:EGood7 n e):(∀ r∈needs e,0≤r∧r<10000)∧(needs e).length≤2:=by
 have ho:=h.op
 have ha:=h.a
 have hb:=h.b
 unfold needs
 split
 ·refine⟨fun r hr=>?_,by simp⟩
  rw[List.mem_singleton]at hr
  subst hr
  rename_i hc
  omega
 ·split
  ·refine⟨fun r hr=>?_,by simp⟩
   simp only[List.mem_cons,List.not_mem_nil,or_false]at hr
   rename_i hc
   rcases hr with rfl|rfl
   ·omega
   ·omega
  ·exact⟨fun r hr=>(by cases hr),by simp⟩
theorem BBelow.mono {t t':Int} {b : MBlkV} (h:BBelow t b) (ht:t≤t'):BBelow t' b:=
 ⟨fun p hp=>by have:=h.dst p hp;omega,fun p hp y hy=>by have:=h.val p hp y hy;omega,fun x hx r hr=>by have:=h.ins x hx r hr;omega,fun r hr=>by have:=h.need r hr;omega⟩
set_option maxHeartbeats 8000000 in
set_option maxRecDepth 100000 in
theorem top12_any (g:MFnV) (w:World) (h:MFnIn w g) (hg:MadeM g) :
  Calls Try.prog 90 #[mfv g] w (fun e w'=>∃ t:Int,e=.returned (.int .i64 t)∧(g.params≤t∧t≤10000)∧(∀ b∈g.blocks,BBelow t b)∧Since w w'):=by
 obtain⟨params,bs,bv⟩:=g
 obtain⟨n,hnn⟩:∃ n,bs.length=n:=⟨_,rfl⟩
 have hn9:1≤n∧n≤9:=by rw[←hnn];exact hg.blocks
 obtain⟨BB,boff,bc,rfl⟩:∃ BB boff bc,bv=.slice (some ⟨BB,boff,none⟩) n bc:=by
  rcases (show RowIn mbcells 7 MBlkIn w bv bs from h) with ⟨a,_,h2⟩|⟨B,off,cap,h1,_⟩
  ·rw[h2]at hnn;simp at hnn;omega
  ·exact⟨B,off,cap,by rw[h1,hnn]⟩
 have hpa:0≤params∧params≤4:=hg.params
 have HG:=Lib.hid hg
 have HIN:=Lib.hid (show RowIn mbcells 7 MBlkIn w (.slice (some ⟨BB,boff,none⟩) n bc) bs from h)
 have HNN:=Lib.hid hnn
 clear h hg hnn
 unfold mfv
 dsimp only
 go_enter Try.func90,Try.ntmps90
 go_upto_region 3 with fail
 obtain⟨xb,hxb⟩:∃ z,z=w.heap.size:=⟨_,rfl⟩
 obtain⟨w1,hw1⟩:∃ z,z=w.alloc (.cells #[.int .i64 params,.slice (some ⟨BB,boff,none⟩) n bc] 105):=⟨_,rfl⟩
 have HXB:=Lib.hid (show HeapIs w1 xb #[.int .i64 params,.slice (some ⟨BB,boff,none⟩) n bc] 105 from by rw[hw1,hxb];exact HeapIs.new _ _ _)
 have HS1:=Lib.hid (show Since w w1 from by rw[hw1];exact (Since.refl w).alloc _)
 rw[←hw1,←hxb]
 clear hw1 hxb
 go_loopw [3,4] (fun tv bv wr=>∃ (t:Int) (b:Nat),tv=.int .i64 t∧bv=.int .i64 b∧b≤n∧(params≤t∧t≤10000)∧(∀ (j:Nat) (x:MBlkV),j<b→bs[j]? = some x→BBelow t x)∧Since w1 wr) (fun _ bv _=>n-(intOf bv).toNat)
 case atStart=>exact⟨params,0,rfl,rfl,Nat.zero_le _,⟨Int.le_refl _,by omega⟩,(fun j x hj=>by omega),Since.refl _⟩
 case round =>
  obtain⟨t1,b,rfl,rfl,hb,ht1,hallb,hs1⟩:=hrel
  obtain⟨wB,hwB⟩:∃ z,z=wr:=⟨_,rfl⟩
  subst hwB
  have HALLB:=Lib.hid hallb
  have HSR:=Lib.hid hs1
  have hbx:=HXB.out.keep hs1
  have hx1:=hbx.cell 1
  have hxl:=hbx.lt
  clear hallb hs1 hbx
  by_cases hlt:b<n
  ·obtain⟨B1,o1,y,he,hB,hy,hcy,hyin⟩:=RowIn.at (RowIn.keep MBlkIn.keep HIN.out (HS1.out.trans HSR.out)) (show b<bs.length by rw[HNN.out];exact hlt)
   cases he
   have hym:=List.mem_of_getElem? hy
   have hgood:=HG.out.each y hym
   rw[show (⟨params,bs,.slice (some ⟨BB,boff,none⟩) n bc⟩:MFnV).blocks.length=n from HNN.out]at hgood
   have HGOOD:=Lib.hid hgood
   have HY:=Lib.hid hy
   obtain⟨phs,phv,ins,insv,⟨eop,ea,eb,eto,etov,eimm⟩⟩:=y
   have HYIN:=Lib.hid hyin
   have hc0:wB.cell? ⟨BB,boff+b*7,none⟩=some phv:=hcy 0 (by decide)
   have hc1:wB.cell? ⟨BB,boff+b*7+1,none⟩=some insv:=hcy 1 (by decide)
   have hc2:wB.cell? ⟨BB,boff+b*7+2,none⟩=some (.int .i64 eop):=hcy 2 (by decide)
   have hc3:wB.cell? ⟨BB,boff+b*7+3,none⟩=some (.int .i64 ea):=hcy 3 (by decide)
   have hc4:wB.cell? ⟨BB,boff+b*7+4,none⟩=some (.int .i64 eb):=hcy 4 (by decide)
   have hc5:wB.cell? ⟨BB,boff+b*7+5,none⟩=some etov:=hcy 5 (by decide)
   have hc6:wB.cell? ⟨BB,boff+b*7+6,none⟩=some (.int .i32 eimm):=hcy 6 (by decide)
   obtain⟨pa,pc,hpv,_⟩:=RowIn.shape (show RowIn fpcells 2 FPhiIn wB phv phs from hyin.1)
   obtain⟨ia,ic,hiv,_⟩:=RowIn.shape (show RowIn macells 8 MaIn wB insv ins from hyin.2.1)
   obtain⟨ta,tc,htv⟩:=nums_lenI hyin.2.2
   obtain⟨pl,hpl⟩:∃ z,phs.length=z:=⟨_,rfl⟩
   obtain⟨il,hil⟩:∃ z,ins.length=z:=⟨_,rfl⟩
   dsimp only at htv
   rw[hpl]at hpv
   rw[hil]at hiv
   subst hpv hiv htv
   have HPL:=Lib.hid hpl
   have HIL:=Lib.hid hil
   have hpl3:pl≤3:=by rw[←hpl];exact hgood.few
   have hil4:il≤3600:=by rw[←hil];exact Nat.le_trans (mem_le_sum (List.mem_map.2 ⟨_,hym,rfl⟩)) HG.out.total
   clear hy hcy hyin hym hgood hpl hil
   go_upto_region 6 with fail
   obtain⟨nb,hnb⟩:∃ z,z=wB.heap.size:=⟨_,rfl⟩
   obtain⟨w3,hw3⟩:∃ z,z=wB.alloc (.cells #[.slice pa pl pc,.slice ia il ic,.int .i64 eop,.int .i64 ea,.int .i64 eb,.slice ta eto.length tc,.int .i32 eimm] 143):=⟨_,rfl⟩
   have HNB:=Lib.hid (show HeapIs w3 nb #[.slice pa pl pc,.slice ia il ic,.int .i64 eop,.int .i64 ea,.int .i64 eb,.slice ta eto.length tc,.int .i32 eimm] 143 from by rw[hw3,hnb];exact HeapIs.new _ _ _)
   have HS3:=Lib.hid (show Since w3 w3 from Since.refl _)
   have HW3:=Lib.hid (show Since wB w3 from by rw[hw3];exact (Since.refl _).alloc _)
   rw[←hw3,←hnb]
   have HPHI:=Lib.hid (RowIn.keep FPhiIn.keep (show RowIn fpcells 2 FPhiIn wB (.slice pa pl pc) phs from HYIN.out.1) HW3.out)
   have HINS:=Lib.hid (RowIn.keep MaIn.keep (show RowIn macells 8 MaIn wB (.slice ia il ic) ins from HYIN.out.2.1) HW3.out)
   clear hw3 hnb hc0 hc1 hc2 hc3 hc4 hc5 hc6 hx1 hxl
   have hn0:=HNB.out.cell 0
   have hnl:=HNB.out.lt
   go_wp2_with fail
   go_loopw [3,6] (fun tv iv wx=>∃ (t:Int) (i:Nat),tv=.int .i64 t∧iv=.int .i64 i∧i≤pl∧(t1≤t∧t≤10000)∧(∀ (j:Nat) (p:FPhi),j<i→phs[j]? = some p→p.dst<t∧∀ y∈p.ins,y.2<t)∧wx=w3) (fun _ iv _=>pl-(intOf iv).toNat)
   case atStart=>exact⟨t1,0,rfl,rfl,Nat.zero_le _,⟨Int.le_refl _,ht1.2⟩,(fun j p hj=>by omega),rfl⟩
   case round =>
    obtain⟨t2,i,rfl,rfl,hi,ht2,hallp,hwx⟩:=hrel
    have e9:=hwx.symm
    clear hwx
    subst e9
    have HALLP:=Lib.hid hallp
    clear hallp
    by_cases hip:i<pl
    ·obtain⟨PB,poff,p,rfl,hPB,hp,hcp,hpin⟩:=RowIn.at HPHI.out (by rw[HPL.out];exact hip)
     have hpd:=HGOOD.out.phis p (List.mem_of_getElem? hp)
     obtain⟨pd,pin,piv⟩:=p
     obtain⟨qa,qc,hqv,_⟩:=RowIn.shape (show RowIn prcells 2 (fun _ _=>True) w3 piv pin from hpin)
     obtain⟨ql,hql⟩:∃ z,pin.length=z:=⟨_,rfl⟩
     rw[hql]at hqv
     subst hqv
     have HPIN:=Lib.hid (show RowIn prcells 2 (fun _ _=>True) w3 (.slice qa ql qc) pin from hpin)
     have HQL:=Lib.hid hql
     have HP:=Lib.hid hp
     have HPD:=Lib.hid hpd
     have hp0:w3.cell? ⟨PB,poff+i*2,none⟩=some (.int .i64 pd):=hcp 0 (by decide)
     have hp1:w3.cell? ⟨PB,poff+i*2+1,none⟩=some (.slice qa ql qc):=hcp 1 (by decide)
     have hpd7:0≤pd∧pd<700:=hpd.1
     have hql9:ql≤9:=by rw[←hql];exact hpd.2.1
     clear hp hpd hcp hpin hql
     go_upto_region 10 with fail
     obtain⟨t3,ht3⟩:∃ z,z=(if t2<pd+1 then pd+1 else t2):=⟨_,rfl⟩
     rw[←ht3]
     have hb3:t2≤t3∧pd+1≤t3∧t3≤10000:=by rw[ht3];split<;>omega
     clear ht3
     go_wp2_with fail
     go_loopw [3,7] (fun tv iv wx=>∃ (t:Int) (k:Nat),tv=.int .i64 t∧iv=.int .i64 k∧k≤ql∧(t3≤t∧t≤10000)∧(∀ (j:Nat) (y:Int × Int),j<k→pin[j]? = some y→y.2<t)∧wx=w3) (fun _ iv _=>ql-(intOf iv).toNat)
     case atStart=>exact⟨t3,0,rfl,rfl,Nat.zero_le _,⟨Int.le_refl _,hb3.2.2⟩,(fun j y hj=>by omega),rfl⟩
     case round =>
      obtain⟨t4,k,rfl,rfl,hk,ht4,hally,hwx⟩:=hrel
      have e9:=hwx.symm
      clear hwx
      subst e9
      have HALLY:=Lib.hid hally
      clear hally
      by_cases hkq:k<ql
      ·obtain⟨QB,qoff,y,rfl,hQB,hy,hcq,_⟩:=RowIn.at HPIN.out (by rw[HQL.out];exact hkq)
       have hyv:=(HPD.out.2.2 y (List.mem_of_getElem? hy)).2
       obtain⟨yf,yv⟩:=y
       have HYY:=Lib.hid hy
       have hq1:w3.cell? ⟨QB,qoff+k*2+1,none⟩=some (.int .i64 yv):=hcq 1 (by decide)
       have hyv2:0≤yv∧yv<700:=hyv
       clear hy hcq hyv
       go_wp2_with fail
       obtain⟨t5,ht5⟩:∃ z,z=(if t4<yv+1 then yv+1 else t4):=⟨_,rfl⟩
       rw[←ht5]
       have hb5:t4≤t5∧yv+1≤t5∧t5≤10000:=by rw[ht5];split<;>omega
       clear ht5
       go_roundw
       case rel=>exact⟨t5,k+1,by trivial,by go_num,by omega,⟨by omega,by omega⟩,(fun j y2 hj h2=>by
        by_cases e:j=k
        ·subst e;rw[HYY.out]at h2;cases h2;show yv<t5;omega
        ·have:=HALLY.out j y2 (by omega) h2;omega),by trivial⟩
       case measure=>simp[intOf];omega
      ·obtain rfl:ql=k:=by omega
       go_wp2_with fail
       go_roundw
       case rel=>exact⟨t4,i+1,by trivial,by go_num,by omega,⟨by omega,by omega⟩,(fun j p2 hj h2=>by
        by_cases e:j=i
        ·subst e;rw[HP.out]at h2;cases h2
         exact⟨by show pd<t4;omega,fun y2 h3=>by
          obtain⟨z,hz⟩:=List.getElem?_of_mem h3
          exact HALLY.out z y2 (by have h8:z<pin.length:=(List.getElem?_eq_some_iff.1 hz).1;have:=HQL.out;omega) hz⟩
        ·have h4:=HALLP.out j p2 (by omega) h2
         exact⟨by omega,fun y2 h3=>by have:=h4.2 y2 h3;omega⟩),by trivial⟩
       case measure=>simp[intOf];omega
    ·obtain rfl:pl=i:=by omega
     have hn1:=HNB.out.cell 1
     go_wp2_with fail
     clear hn0 hn1 hnl
     go_loopw [3,8] (fun tv iv wx=>∃ (t:Int) (i:Nat),tv=.int .i64 t∧iv=.int .i64 i∧i≤il∧(t2≤t∧t≤10000)∧(∀ (j:Nat) (x:MaV),j<i→ins[j]? = some x→∀ r∈takes7 x.m++makes7 x.m,r<t)∧Since w3 wx) (fun _ iv _=>il-(intOf iv).toNat)
     case atStart=>exact⟨t2,0,rfl,rfl,Nat.zero_le _,⟨Int.le_refl _,ht2.2⟩,(fun j x hj=>by omega),Since.refl _⟩
     case round =>
      obtain⟨t6,hb2⟩:∃ z,z=t2:=⟨_,rfl⟩
      obtain⟨t2,i,rfl,rfl,hi,ht2,hallx,hsx⟩:=hrel
      have HALLX:=Lib.hid hallx
      have HSX0:=Lib.hid hsx
      clear hallx hsx
      have hnb2:=HNB.out.keep HSX0.out
      have hn1:=hnb2.cell 1
      have hn2:=hnb2.cell 2
      have hn3:=hnb2.cell 3
      have hn4:=hnb2.cell 4
      have hn5:=hnb2.cell 5
      have hn6:=hnb2.cell 6
      have hnl:=hnb2.lt
      have HNB2:=Lib.hid hnb2
      clear hnb2
      by_cases hii:i<il
      ·obtain⟨IB,ioff,x,rfl,hIB,hx,hcx,hxin⟩:=RowIn.at (RowIn.keep MaIn.keep HINS.out HSX0.out) (by rw[HIL.out];exact hii)
       have hxm:=List.mem_of_getElem? hx
       have hxg:=HGOOD.out.ins x hxm
       obtain⟨xm,xav⟩:=x
       have HX:=Lib.hid hx
       have HXA:=Lib.hid (show Ints wr xav xm.args∧xm.args.length≤1000 from⟨hxin,by have h8:xm.args.length≤4:=hxg.few;omega⟩)
       have HTL:=Lib.hid (show (takes7 xm).length≤4 from takes7_few hxg)
       have HML:=Lib.hid (show (makes7 xm).length≤2 from makes7_few)
       have HRG:=Lib.hid (show ∀ r∈takes7 xm++makes7 xm,0≤r∧r<10000 from fun r hr=>by
        rcases List.mem_append.1 hr with hr|hr
        ·exact takes7_in hxg r hr
        ·exact makes7_in hxg r hr)
       have HCM:=Lib.hid (fun (w5:World) (hs:Since wr w5)=>show (∀ t,t<8→w5.cell? ⟨IB,ioff+i*8+t,none⟩=(macells ⟨xm,xav⟩)[t]?)∧IB<w5.heap.size from⟨fun t ht=>by rw[hs.cell (p:=⟨IB,ioff+i*8+t,none⟩) hIB];exact hcx t ht,Nat.lt_of_lt_of_le hIB hs.size⟩)
       clear hx hxm hxg hxin hcx
       go_upto_region 17 with fail
       clear hn1 hn2 hn3 hn4 hn5 hn6 hnl hIB
       refine wp_region_since_tail 14 rfl (by decide +kernel) (by decide +kernel) (by decide +kernel) (by decide)
        [IsNilOf 3 wr,Is (.pointer (some ⟨nb,1,none⟩)),Is (.slice (some ⟨IB,ioff,none⟩) il ic),Is (.int .i64 i),Is (.pointer (some ⟨IB,ioff+i*8,none⟩)),Is (mv xm xav),IsNums .i64 (takes7 xm),NewNums 3 wr (takes7 xm),Is (.pointer (some ⟨nb,1,none⟩)),Is (.slice (some ⟨IB,ioff,none⟩) il ic),Is (.int .i64 i),Is (.pointer (some ⟨IB,ioff+i*8,none⟩)),Is (mv xm xav),IsNums .i64 (makes7 xm)]
        (by repeat (first | exact trivial | refine⟨Is.stable _,?_⟩ | refine⟨IsNilOf.stable _ _,?_⟩ | refine⟨NewNums.stable _ _ _,?_⟩ | refine⟨IsNums.stable _ _,?_⟩)) ⟨?_,?_,?_,?_,?_,?_,?_,?_,?_,?_,?_,?_,?_,?_,trivial⟩ ?_
       rotate_right
       ·intro vs w5 hs hk
        simp only[List.take,List.drop,putAll,Act.put,KnowsAll,nthF,Is,List.setIfInBounds_toArray,List.set_cons_zero,List.set_cons_succ,Nat.reduceAdd]at hk ⊢
        try simp only[hk]
        have h7:NewNums 3 wr (takes7 xm) (vs 7) w5:=by exact hk.2.2.2.2.2.2.2.1
        have h13:Nums .i64 w5 (vs 13) (makes7 xm):=by exact hk.2.2.2.2.2.2.2.2.2.2.2.2.2.1
        generalize vs 7=v7 at *
        generalize vs 13=v13 at *
        have HS5:=Lib.hid hs
        have H7:=Lib.hid h7
        have H13:=Lib.hid h13
        have K2:=Lib.hid (show (takes7 xm).length+(makes7 xm).length≤1000000 from by have:=HTL.out;have:=HML.out;omega)
        clear hk hs h7 h13
        go_upto_region 18 with (refine wpList_append_nums2 (base:=wr.heap.size) .i64 rfl _ _ 25 rfl 3 (.int .i64 0) 8 Try.underlying25 Try.info3 rfl (by decide) v7 v13 (takes7 xm) (makes7 xm) rfl rfl H7.out H13.out K2.out HS5.out.size ?_;intro v6 w6 hown6 ht6 hnew6;have HOWN:=Lib.hid hown6;have HS6:=Lib.hid (show Since wr w6 from ht6.toSince HS5.out fun q hq e=>by have:=(World.ownsRow.lt H7.out q e).1;omega);clear hown6 ht6 hnew6)
        obtain⟨la,lc,hlv⟩:=own_shape HOWN.out
        obtain⟨ll,hll⟩:∃ z,(takes7 xm++makes7 xm).length=z:=⟨_,rfl⟩
        rw[hll]at hlv
        subst hlv
        have HLL:=Lib.hid hll
        have hll6:ll≤6:=by have:=HTL.out;have:=HML.out;rw[List.length_append]at hll;omega
        have HNL:=Lib.hid (show Nums .i64 w6 (.slice la ll lc) (takes7 xm++makes7 xm) from by have h9:=nums_of_own HOWN.out;exact h9)
        clear hll
        go_wp2_with fail
        go_loopw [3,10] (fun tv iv w7=>∃ (t:Int) (k:Nat),tv=.int .i64 t∧iv=.int .i64 k∧k≤ll∧(t2≤t∧t≤10000)∧(∀ (j:Nat) (r:Int),j<k→(takes7 xm++makes7 xm)[j]? = some r→r<t)∧w7=w6) (fun _ iv _=>ll-(intOf iv).toNat)
        case atStart=>exact⟨t2,0,rfl,rfl,Nat.zero_le _,⟨Int.le_refl _,ht2.2⟩,(fun j r hj=>by omega),rfl⟩
        case round =>
         obtain⟨t,k,rfl,rfl,hk,ht,hall,hwx⟩:=hrel
         have e9:=hwx.symm
         clear hwx
         subst e9
         have HALL:=Lib.hid hall
         clear hall
         by_cases hkl:k<ll
         ·obtain⟨r,hr⟩:∃ r,(takes7 xm++makes7 xm)[k]? = some r:=⟨_,List.getElem?_eq_getElem (by rw[HLL.out];exact hkl)⟩
          obtain⟨LB,loff,rfl,hLB,hcr⟩:=nums_read HNL.out hr
          have hrN:=HRG.out r (List.mem_of_getElem? hr)
          have HR:=Lib.hid hr
          clear hr
          go_wp2_with fail
          obtain⟨t3,ht3⟩:∃ z,z=(if t<r+1 then r+1 else t):=⟨_,rfl⟩
          rw[←ht3]
          have hb3:t≤t3∧r+1≤t3∧t3≤10000:=by rw[ht3];split<;>omega
          clear ht3
          go_roundw
          case rel=>exact⟨t3,k+1,by trivial,by go_num,by omega,⟨by omega,by omega⟩,(fun j r2 hj h2=>by
           by_cases e:j=k
           ·subst e;rw[HR.out]at h2;cases h2;omega
           ·have:=HALL.out j r2 (by omega) h2;omega),by trivial⟩
          case measure=>simp[intOf];omega
         ·obtain rfl:ll=k:=by omega
          go_wp2_with fail
          go_roundw
          case rel=>exact⟨t,i+1,by trivial,by go_num,by omega,⟨by omega,by omega⟩,(fun j x hj hx=>by
           by_cases e:j=i
           ·subst e;rw[HX.out]at hx;cases hx
            exact fun r hr=>by
             obtain⟨z,hz⟩:=List.getElem?_of_mem hr
             exact HALL.out z r (by have h8:z<(takes7 xm++makes7 xm).length:=(List.getElem?_eq_some_iff.1 hz).1;rw[HLL.out]at h8;exact h8) hz
           ·intro r hr;have:=HALLX.out j x (by omega) hx r hr;omega),HSX0.out.trans HS6.out⟩
          case measure=>simp[intOf];omega
       all_goals
        intro vs w5 hs hk _
        simp only[List.take,putAll,Act.put,Knows,nthF,Is,List.setIfInBounds_toArray,List.set_cons_zero,List.set_cons_succ,Nat.reduceAdd]at hk ⊢
        try simp only[hk]
       ·have hz:=hs.size
        clear hk
        go_wp2
        exact⟨_,rfl,IsNilOf.new hz,(Since.refl _).alloc _⟩
       ·go_wp2
        exact⟨_,rfl,rfl,Since.refl _⟩
       ·have hbx:HeapIs w5 nb #[_,_,_,_,_,_,_] 143:=HNB2.out.keep hs
        have hc:=hbx.cell 1
        have hl:=hbx.lt
        clear hbx
        go_wp2
        exact⟨_,rfl,rfl,Since.refl _⟩
       ·go_wp2
        exact⟨_,rfl,rfl,Since.refl _⟩
       ·go_wp2
        exact⟨_,rfl,rfl,Since.refl _⟩
       ·obtain⟨hcm,hlm⟩:=HCM.out w5 hs
        clear hk
        have g0:=hcm 0 (by decide)
        have g1:=hcm 1 (by decide)
        have g2:=hcm 2 (by decide)
        have g3:=hcm 3 (by decide)
        have g4:=hcm 4 (by decide)
        have g5:=hcm 5 (by decide)
        have g6:=hcm 6 (by decide)
        have g7:=hcm 7 (by decide)
        replace g0:w5.cell? ⟨IB,ioff+i*8,none⟩=some (.int .i64 xm.op):=g0
        replace g1:w5.cell? ⟨IB,ioff+i*8+1,none⟩=some (.int .i64 xm.d):=g1
        replace g2:w5.cell? ⟨IB,ioff+i*8+2,none⟩=some (.int .i64 xm.e):=g2
        replace g3:w5.cell? ⟨IB,ioff+i*8+3,none⟩=some (.int .i64 xm.a):=g3
        replace g4:w5.cell? ⟨IB,ioff+i*8+4,none⟩=some (.int .i64 xm.b):=g4
        replace g5:w5.cell? ⟨IB,ioff+i*8+5,none⟩=some (.int .i64 xm.c):=g5
        replace g6:w5.cell? ⟨IB,ioff+i*8+6,none⟩=some (.int .i32 xm.imm):=g6
        replace g7:w5.cell? ⟨IB,ioff+i*8+7,none⟩=some xav:=g7
        clear hcm
        unfold mv
        go_wp2
        exact⟨_,rfl,rfl,Since.refl _⟩
       ·clear hk
        go_wp2_with fail
        refine (rtakes7_any xm xav w5 (HXA.out.1.keep hs) HXA.out.2).mono ?_
        rintro e w6 ⟨v,rfl,hv,hs6⟩
        go_wp2
        exact⟨_,rfl,hv,hs6⟩
       ·have hz:=hs.size
        have hnil:IsNilOf 3 wr (vs 0) w5:=by exact hk.1
        have hsrc:=srcInts (show Nums .i64 w5 (vs 6) (takes7 xm) from by exact hk.2.1)
        have hl4:=HTL.out
        generalize vs 0=v5 at *
        generalize vs 6=v7 at *
        clear hk
        refine wpList_append_clone (w0:=wr) rfl _ _ 25 rfl 3 (.int .i64 0) 1 8 Try.underlying25 Try.info3 rfl (by decide) (by decide) v5 v7 (takes7 xm).length ((takes7 xm).map (Value.int .i64)) rfl rfl hnil hsrc (by simp) (by omega) (fun u hu=>by obtain⟨z,_,rfl⟩:=List.mem_map.1 hu;rfl) hz ?_
        intro v' w3 hown hs3
        go_wp2
        exact⟨_,rfl,hown,hs3⟩
       ·go_wp2
        exact⟨_,rfl,rfl,Since.refl _⟩
       ·have hbx:HeapIs w5 nb #[_,_,_,_,_,_,_] 143:=HNB2.out.keep hs
        have hc:=hbx.cell 1
        have hl:=hbx.lt
        clear hbx
        go_wp2
        exact⟨_,rfl,rfl,Since.refl _⟩
       ·go_wp2
        exact⟨_,rfl,rfl,Since.refl _⟩
       ·go_wp2
        exact⟨_,rfl,rfl,Since.refl _⟩
       ·obtain⟨hcm,hlm⟩:=HCM.out w5 hs
        clear hk
        have g0:=hcm 0 (by decide)
        have g1:=hcm 1 (by decide)
        have g2:=hcm 2 (by decide)
        have g3:=hcm 3 (by decide)
        have g4:=hcm 4 (by decide)
        have g5:=hcm 5 (by decide)
        have g6:=hcm 6 (by decide)
        have g7:=hcm 7 (by decide)
        replace g0:w5.cell? ⟨IB,ioff+i*8,none⟩=some (.int .i64 xm.op):=g0
        replace g1:w5.cell? ⟨IB,ioff+i*8+1,none⟩=some (.int .i64 xm.d):=g1
        replace g2:w5.cell? ⟨IB,ioff+i*8+2,none⟩=some (.int .i64 xm.e):=g2
        replace g3:w5.cell? ⟨IB,ioff+i*8+3,none⟩=some (.int .i64 xm.a):=g3
        replace g4:w5.cell? ⟨IB,ioff+i*8+4,none⟩=some (.int .i64 xm.b):=g4
        replace g5:w5.cell? ⟨IB,ioff+i*8+5,none⟩=some (.int .i64 xm.c):=g5
        replace g6:w5.cell? ⟨IB,ioff+i*8+6,none⟩=some (.int .i32 xm.imm):=g6
        replace g7:w5.cell? ⟨IB,ioff+i*8+7,none⟩=some xav:=g7
        clear hcm
        unfold mv
        go_wp2
        exact⟨_,rfl,rfl,Since.refl _⟩
       ·clear hk
        go_wp2_with fail
        refine (rmakes7_any xm xav w5 (HXA.out.1.keep hs) HXA.out.2).mono ?_
        rintro e w6 ⟨v,rfl,hv,hs6⟩
        go_wp2
        exact⟨_,rfl,hv,hs6⟩
      ·obtain rfl:il=i:=by omega
       have HSX9:=Lib.hid (HW3.out.trans HSX0.out)
       have hti:=HYIN.out.2.2
       dsimp only at hti
       have HE7:=Lib.hid (show EGood7 n ⟨eop,ea,eb,eto,.slice ta eto.length tc,eimm⟩ from HGOOD.out.fin)
       clear hti hi hii
       go_wp2_with fail
       refine (rneeds_any ⟨eop,ea,eb,eto,.slice ta eto.length tc,eimm⟩ wr ⟨_,_,_,rfl⟩).mono ?_
       rintro e w7 ⟨v7,rfl,hv7,hs7⟩
       have HRG:=Lib.hid (needs_in HE7.out)
       have HS7:=Lib.hid hs7
       obtain⟨l,hl⟩:∃ z,needs ⟨eop,ea,eb,eto,.slice ta eto.length tc,eimm⟩=z:=⟨_,rfl⟩
       rw[hl]at HRG hv7
       have HL:=Lib.hid hl
       obtain⟨la,lc,rfl⟩:=nums_lenI hv7
       have HNL:=Lib.hid hv7
       obtain⟨ll,hll⟩:∃ z,l.length=z:=⟨_,rfl⟩
       rw[hll]at HNL ⊢
       have hll2:ll≤2:=by rw[←hll];exact HRG.out.2
       have HLL:=Lib.hid hll
       clear hl hv7 hll hs7
       go_wp2_with fail
       go_loopw [3,12] (fun tv iv w8=>∃ (t:Int) (k:Nat),tv=.int .i64 t∧iv=.int .i64 k∧k≤ll∧(t2≤t∧t≤10000)∧(∀ (j:Nat) (r:Int),j<k→l[j]? = some r→r<t)∧w8=w7) (fun _ iv _=>ll-(intOf iv).toNat)
       case atStart=>exact⟨t2,0,rfl,rfl,Nat.zero_le _,⟨Int.le_refl _,by omega⟩,(fun j r hj=>by omega),rfl⟩
       case round =>
        obtain⟨t,k,rfl,rfl,hk,ht,hall,hwx⟩:=hrel
        have e9:=hwx.symm
        clear hwx
        subst e9
        have HALL:=Lib.hid hall
        clear hall
        by_cases hkl:k<ll
        ·obtain⟨r,hr⟩:∃ r,l[k]? = some r:=⟨_,List.getElem?_eq_getElem (by rw[HLL.out];exact hkl)⟩
         obtain⟨LB,loff,rfl,hLB,hcr⟩:=nums_read HNL.out hr
         have hrN:=HRG.out.1 r (List.mem_of_getElem? hr)
         have HR:=Lib.hid hr
         clear hr
         go_wp2_with fail
         obtain⟨t3,ht3⟩:∃ z,z=(if t<r+1 then r+1 else t):=⟨_,rfl⟩
         rw[←ht3]
         have hb3:t≤t3∧r+1≤t3∧t3≤10000:=by rw[ht3];split<;>omega
         clear ht3
         go_roundw
         case rel=>exact⟨t3,k+1,by trivial,by go_num,by omega,⟨by omega,by omega⟩,(fun j r2 hj h2=>by
          by_cases e:j=k
          ·subst e;rw[HR.out]at h2;cases h2;omega
          ·have:=HALL.out j r2 (by omega) h2;omega),by trivial⟩
         case measure=>simp[intOf];omega
        ·obtain rfl:ll=k:=by omega
         go_wp2_with fail
         go_roundw
         case rel =>
          have hbb:BBelow t ⟨phs,.slice pa pl pc,ins,.slice ia il ic,⟨eop,ea,eb,eto,.slice ta eto.length tc,eimm⟩⟩:=by
           refine⟨fun p hp=>?_,fun p hp y hy=>?_,fun x hx r hr=>?_,fun r hr=>?_⟩
           ·obtain⟨j,hj⟩:=List.getElem?_of_mem hp
            have:=(HALLP.out j p (by have h8:j<phs.length:=(List.getElem?_eq_some_iff.1 hj).1;have:=HPL.out;omega) hj).1
            omega
           ·obtain⟨j,hj⟩:=List.getElem?_of_mem hp
            have:=(HALLP.out j p (by have h8:j<phs.length:=(List.getElem?_eq_some_iff.1 hj).1;have:=HPL.out;omega) hj).2 y hy
            omega
           ·obtain⟨j,hj⟩:=List.getElem?_of_mem hx
            have:=HALLX.out j x (by have h8:j<ins.length:=(List.getElem?_eq_some_iff.1 hj).1;have:=HIL.out;omega) hj r hr
            omega
           ·have hr:r∈l:=by rw[←HL.out];exact hr
            obtain⟨j,hj⟩:=List.getElem?_of_mem hr
            exact HALL.out j r (by have h8:=(List.getElem?_eq_some_iff.1 hj).1;have:=HLL.out;omega) hj
          exact⟨t,b+1,by trivial,by go_num,by omega,⟨by omega,by omega⟩,(fun j x hj hx=>by
           by_cases e:j=b
           ·subst e;rw[HY.out]at hx;cases hx;exact hbb
           ·exact (HALLB.out j x (by omega) hx).mono (by omega)),HSR.out.trans (HSX9.out.trans HS7.out)⟩
         case measure=>simp[intOf];omega
  ·obtain rfl:n=b:=by omega
   go_wp2_with fail
   go_ret
   exact⟨t1,rfl,ht1,fun x hx=>by
    obtain⟨j,hj⟩:=List.getElem?_of_mem hx
    exact HALLB.out j x (by have:=(List.getElem?_eq_some_iff.1 hj).1;have:=HNN.out;omega) hj,HS1.out.trans HSR.out⟩
structure NvG (params S:Int) (bs:List MBlkV) (n:Nat) (ow:List Int):Prop where
 len:bs.length=n
 n9:1≤n∧n≤9
 pa:0≤params∧params≤4∧params≤S
 Sle:S≤16384
 each:∀ b∈bs,MBGood n b∧BBelow S b∧b.ins.length≤3600
 own:∀ (j:Nat) (b:MBlkV),bs[j]? = some b→∃ o:Int,ow[j]? = some o∧0≤o∧o+b.phis.length≤S
structure NvD (mq xq:Nat) (params:Int) (bs:List MBlkV) (BB boff n bc:Nat) (k:MBlkV) (OB ooff oc:Nat) (ow:List Int) (w:World):Prop where
 mbox:HeapIs w mq #[.int .i64 params,.slice (some ⟨BB,boff,none⟩) n bc] 105
 prog:RowIn mbcells 7 MBlkIn w (.slice (some ⟨BB,boff,none⟩) n bc) bs
 xbox:HeapIs w xq #[k.phv,k.insv,.int .i64 k.fin.op,.int .i64 k.fin.a,.int .i64 k.fin.b,k.fin.tov,.int .i32 k.fin.imm] 143
 own:Nums .i64 w (.slice (some ⟨OB,ooff,none⟩) n oc) ow
 xin:MBlkIn w k
theorem NvD.keep {mq xq:Nat} {params:Int} {bs:List MBlkV} {BB boff n bc:Nat} {k : MBlkV} {OB ooff oc:Nat} {ow:List Int} {w w':World} (h:NvD mq xq params bs BB boff n bc k OB ooff oc ow w) (s:Since w w'):NvD mq xq params bs BB boff n bc k OB ooff oc ow w':=
 ⟨h.mbox.keep s,RowIn.keep MBlkIn.keep h.prog s,h.xbox.keep s,h.own.keep s,MBlkIn.keep w w' k h.xin s⟩
theorem NvD.ocell {mq xq:Nat} {params:Int} {bs:List MBlkV} {BB boff n bc:Nat} {k : MBlkV} {OB ooff oc:Nat} {ow:List Int} {w : World} (h:NvD mq xq params bs BB boff n bc k OB ooff oc ow w) {j : Nat} {o : Int} (hj:ow[j]? = some o):w.cell? ⟨OB,ooff+j,none⟩=some (.int .i64 o)∧OB<w.heap.size:=by
 obtain⟨b,off,h1,h2,h3⟩:=nums_read h.own hj
 cases h1
 exact⟨h3,h2⟩
structure NvY (S:Int) (wY:World) (c yq:Nat) (v:Value) (xs:List PlV) (w:World):Prop where
 box:HeapIs w yq #[v,.int .i64 0,.int .i64 0,.int .i64 0,.slice none 0 0,.int .i32 0] 56
 row:OwnRow plcells 9 58 wY.heap.size w v xs
 each:∀ y∈xs,PlNew wY.heap.size S w y
 few:xs.length≤c
 old:Since wY w
 low:wY.heap.size≤yq
section
variable {S : Int} {wY w w2 w6:World} {c c' yq:Nat} {v v':Value} {xs ys:List PlV}
theorem NvY.keep (h:NvY S wY c yq v xs w) (s:Since w w2):NvY S wY c yq v xs w2:=⟨h.box.keep s,h.row.keep s,fun y hy=>(h.each y hy).keep s,h.few,h.old.trans s,h.low⟩
theorem NvY.more (h:NvY S wY c yq v xs w) (hc:c≤c'):NvY S wY c' yq v xs w:=⟨h.box,h.row,h.each,Nat.le_trans h.few hc,h.old,h.low⟩
theorem NvY.put (h:NvY S wY c yq v xs w2) (hown:OwnRow plcells 9 58 wY.heap.size w6 v' (xs++ys)) (t:Turn (fun q=>v.ownBlock=some q) w2 w6) (hy:∀ y∈ys,PlNew wY.heap.size S w2 y) (hl:xs.length+ys.length≤c'):NvY S wY c' yq v' (xs++ys) (w6.setCell ⟨yq,0,none⟩ v'):=by
 have hlo:∀ q,v.ownBlock=some q→wY.heap.size≤q:=fun q hq=>(World.ownsRow.lt (show w2.ownsRow _ _ _ _ _ _ from h.row) q hq).1
 have hb:=h.box.turn t (own_not h.row h.box (by decide))
 have t2:Turn (fun q=>q=yq) w6 (w6.setCell ⟨yq,0,none⟩ v'):=(Turn.refl (fun q=>q=yq) w6).setCell (p:=⟨yq,0,none⟩) rfl _
 have hp:∀ y,PlNew wY.heap.size S w2 y→PlNew wY.heap.size S (w6.setCell ⟨yq,0,none⟩ v') y:=fun y hy=>by
  have h1:=hy.turn h.row t
  exact⟨own_turn h1.args t2 fun q hq e=>own_not h1.args hb (by decide) (e ▸ hq),h1.good,h1.src⟩
 refine⟨hb.set 0 v',own_turn hown t2 fun q hq e=>own_not hown hb (by decide) (e ▸ hq),fun y hm=>?_,by rw[List.length_append];exact hl,t2.toSince (t.toSince h.old fun q hq e=>by have:=hlo q e;omega) fun q hq e=>by have:=h.low;omega,h.low⟩
 rcases List.mem_append.1 hm with hm|hm
 ·exact hp y (h.each y hm)
 ·exact hp y (hy y hm)
end
theorem GoodRow.low {B B':Nat} {S : Int} {k : Nat} {v : Value} {w : World} (h:GoodRow B S k v w) (hb:B'≤B):GoodRow B' S k v w:=by
 obtain⟨xs,h1,h2,h3⟩:=h
 exact⟨xs,h1,h2,fun y hy=>(h3 y hy).base hb⟩
noncomputable def VCode (p:List Nat):Code:=cNav p (Try.f59.body.getD .skip)
def FrV (l:List (Nat × Value)) (a:Act):Prop:=a.tmps.size=242∧a.defers=[]∧Sl l a
theorem frV_mk {l : List (Nat × Value)} {a : Act} (h1:a.tmps.size=242) (h2:a.defers=[]) (h3:Sl l a):FrV l a:=⟨h1,h2,h3⟩
set_option maxRecDepth 1000000 in
theorem litV_range (u:Nat→Value):(u 0::u 1::u 2::u 3::u 4::u 5::u 6::u 7::u 8::u 9::u 10::u 11::u 12::u 13::u 14::u 15::u 16::u 17::u 18::u 19::u 20::u 21::u 22::u 23::u 24::u 25::u 26::u 27::u 28::u 29::u 30::u 31::u 32::u 33::u 34::u 35::u 36::u 37::u 38::u 39::u 40::u 41::u 42::u 43::u 44::u 45::u 46::u 47::u 48::u 49::u 50::u 51::u 52::u 53::u 54::u 55::u 56::u 57::u 58::u 59::u 60::u 61::u 62::u 63::u 64::u 65::u 66::u 67::u 68::u 69::u 70::u 71::u 72::u 73::u 74::u 75::u 76::u 77::u 78::u 79::u 80::u 81::u 82::u 83::u 84::u 85::u 86::u 87::u 88::u 89::u 90::u 91::u 92::u 93::u 94::u 95::u 96::u 97::u 98::u 99::u 100::u 101::u 102::u 103::u 104::u 105::u 106::u 107::u 108::u 109::u 110::u 111::u 112::u 113::u 114::u 115::u 116::u 117::u 118::u 119::u 120::u 121::u 122::u 123::u 124::u 125::u 126::u 127::u 128::u 129::u 130::u 131::u 132::u 133::u 134::u 135::u 136::u 137::u 138::u 139::u 140::u 141::u 142::u 143::u 144::u 145::u 146::u 147::u 148::u 149::u 150::u 151::u 152::u 153::u 154::u 155::u 156::u 157::u 158::u 159::u 160::u 161::u 162::u 163::u 164::u 165::u 166::u 167::u 168::u 169::u 170::u 171::u 172::u 173::u 174::u 175::u 176::u 177::u 178::u 179::u 180::u 181::u 182::u 183::u 184::u 185::u 186::u 187::u 188::u 189::u 190::u 191::u 192::u 193::u 194::u 195::u 196::u 197::u 198::u 199::u 200::u 201::u 202::u 203::u 204::u 205::u 206::u 207::u 208::u 209::u 210::u 211::u 212::u 213::u 214::u 215::u 216::u 217::u 218::u 219::u 220::u 221::u 222::u 223::u 224::u 225::u 226::u 227::u 228::u 229::u 230::u 231::u 232::u 233::u 234::u 235::u 236::u 237::u 238::u 239::u 240::u 241::[]:List Value).toArray=((List.range 242).map u).toArray:=by kernel_rfl
set_option maxRecDepth 1000000 in
theorem frameV_ex {l : List (Nat × Value)} {a : Act} (h:FrV l a):∃ u:Nat→Value,a=⟨(u 0::u 1::u 2::u 3::u 4::u 5::u 6::u 7::u 8::u 9::u 10::u 11::u 12::u 13::u 14::u 15::u 16::u 17::u 18::u 19::u 20::u 21::u 22::u 23::u 24::u 25::u 26::u 27::u 28::u 29::u 30::u 31::u 32::u 33::u 34::u 35::u 36::u 37::u 38::u 39::u 40::u 41::u 42::u 43::u 44::u 45::u 46::u 47::u 48::u 49::u 50::u 51::u 52::u 53::u 54::u 55::u 56::u 57::u 58::u 59::u 60::u 61::u 62::u 63::u 64::u 65::u 66::u 67::u 68::u 69::u 70::u 71::u 72::u 73::u 74::u 75::u 76::u 77::u 78::u 79::u 80::u 81::u 82::u 83::u 84::u 85::u 86::u 87::u 88::u 89::u 90::u 91::u 92::u 93::u 94::u 95::u 96::u 97::u 98::u 99::u 100::u 101::u 102::u 103::u 104::u 105::u 106::u 107::u 108::u 109::u 110::u 111::u 112::u 113::u 114::u 115::u 116::u 117::u 118::u 119::u 120::u 121::u 122::u 123::u 124::u 125::u 126::u 127::u 128::u 129::u 130::u 131::u 132::u 133::u 134::u 135::u 136::u 137::u 138::u 139::u 140::u 141::u 142::u 143::u 144::u 145::u 146::u 147::u 148::u 149::u 150::u 151::u 152::u 153::u 154::u 155::u 156::u 157::u 158::u 159::u 160::u 161::u 162::u 163::u 164::u 165::u 166::u 167::u 168::u 169::u 170::u 171::u 172::u 173::u 174::u 175::u 176::u 177::u 178::u 179::u 180::u 181::u 182::u 183::u 184::u 185::u 186::u 187::u 188::u 189::u 190::u 191::u 192::u 193::u 194::u 195::u 196::u 197::u 198::u 199::u 200::u 201::u 202::u 203::u 204::u 205::u 206::u 207::u 208::u 209::u 210::u 211::u 212::u 213::u 214::u 215::u 216::u 217::u 218::u 219::u 220::u 221::u 222::u 223::u 224::u 225::u 226::u 227::u 228::u 229::u 230::u 231::u 232::u 233::u 234::u 235::u 236::u 237::u 238::u 239::u 240::u 241::[]).toArray,[]⟩∧∀ i v,a.tmps[i]? = some v→u i=v:=by
 obtain⟨t,d⟩:=a
 obtain⟨h1,h2,_⟩:=h
 dsimp only at h1 h2
 obtain⟨u,hu⟩:∃ u:Nat→Value,∀ i,u i=t.getD i undef:=⟨fun i=>t.getD i undef,fun _=>rfl⟩
 refine⟨u,?_,fun i v hv=>?_⟩
 ·rw[h2]
  refine congrArg (fun x=>Act.mk x []) (Eq.trans ?_ (litV_range u).symm)
  apply Array.ext
  ·simp[h1]
  ·intro i g1 g2
   simp[g1,hu]
 ·rw[hu,Array.getD_eq_getD_getElem?,show t[i]? = some v from hv];rfl
set_option maxHeartbeats 4000000 in
set_option maxRecDepth 1000000 in
theorem nv_params (wY:World) (mq xq rq pq yq:Nat) (params S:Int) (bs:List MBlkV) (BB boff n bc:Nat) (k:MBlkV) (OB ooff oc:Nat) (ow:List Int) (b:Nat) (v0:Value) (xs0:List PlV) (a0:Act) (w1:World) (Q0:Exit→Act→World→Prop) (hfr:FrV [(2,.pointer (some ⟨mq,0,none⟩)),(4,.pointer (some ⟨rq,0,none⟩)),(6,.pointer (some ⟨pq,0,none⟩)),(7,.slice (some ⟨OB,ooff,none⟩) n oc),(10,.int .i64 b),(11,.pointer (some ⟨xq,0,none⟩)),(12,.pointer (some ⟨yq,0,none⟩)),(13,.int .i64 (0:Nat))] a0)
  (hd:NvD mq xq params bs BB boff n bc k OB ooff oc ow wY) (hg:NvG params S bs n ow) (hkb:bs[b]? = some k) (hst:NvY S wY 0 yq v0 xs0 w1)
  (hQ:∀ a1 w2 v2 xs2,FrV [(2,.pointer (some ⟨mq,0,none⟩)),(4,.pointer (some ⟨rq,0,none⟩)),(6,.pointer (some ⟨pq,0,none⟩)),(7,.slice (some ⟨OB,ooff,none⟩) n oc),(10,.int .i64 b),(11,.pointer (some ⟨xq,0,none⟩)),(12,.pointer (some ⟨yq,0,none⟩))] a1→NvY S wY 4 yq v2 xs2 w2→Q0 .normal a1 w2):Code.wp Try.prog (VCode [1,1,1,1,1,1,1,0,1,0,0,1,0,0,1,1,0,1]) Q0 a0 w1:=by
 obtain⟨u,ha0,hu⟩:=frameV_ex hfr
 obtain⟨g1,g2,s2,s4,s6,s7,s10,s11,s12,s13,g3⟩:=hfr
 have e2:=hu 2 _ s2
 have e4:=hu 4 _ s4
 have e6:=hu 6 _ s6
 have e7:=hu 7 _ s7
 have e10:=hu 10 _ s10
 have e11:=hu 11 _ s11
 have e12:=hu 12 _ s12
 have e13:=hu 13 _ s13
 rw[e2,e4,e6,e7,e10,e11,e12,e13]at ha0
 subst ha0
 clear hu g1 g2 g3 e2 s2 e4 s4 e6 s6 e7 s7 e10 s10 e11 s11 e12 s12 e13 s13
 conv=>arg 2;whnf
 have HQ:=Lib.hid hQ
 have HD:=Lib.hid hd
 have HG:=Lib.hid hg
 have HKB:=Lib.hid hkb
 clear hQ hd hg hkb
 go_wp2_with fail
 refine wp_loop_fr (fun t ac wr=>∃ (i:Nat) (v:Value) (xs:List PlV),t=4-i∧(i:Int)≤params∧FrV [(2,.pointer (some ⟨mq,0,none⟩)),(4,.pointer (some ⟨rq,0,none⟩)),(6,.pointer (some ⟨pq,0,none⟩)),(7,.slice (some ⟨OB,ooff,none⟩) n oc),(10,.int .i64 b),(11,.pointer (some ⟨xq,0,none⟩)),(12,.pointer (some ⟨yq,0,none⟩)),(13,.int .i64 i)] ac∧NvY S wY i yq v xs wr) 4 ⟨0,_,_,rfl,by have:=HG.out.pa;omega,(frV_mk rfl rfl (sl_cons rfl (sl_cons rfl (sl_cons rfl (sl_cons rfl (sl_cons rfl (sl_cons rfl (sl_cons rfl (sl_cons rfl (sl_nil _)))))))))),hst⟩ ?_
 ·clear hst
  intro t a1 wr K hJ hK
  have HK9:=Lib.hid hK
  clear hK
  obtain⟨i,v,xs,rfl,hi,hf,hst⟩:=hJ
  obtain⟨u,ha0,hu⟩:=frameV_ex hf
  obtain⟨g1,g2,s2,s4,s6,s7,s10,s11,s12,s13,g3⟩:=hf
  have e2:=hu 2 _ s2
  have e4:=hu 4 _ s4
  have e6:=hu 6 _ s6
  have e7:=hu 7 _ s7
  have e10:=hu 10 _ s10
  have e11:=hu 11 _ s11
  have e12:=hu 12 _ s12
  have e13:=hu 13 _ s13
  rw[e2,e4,e6,e7,e10,e11,e12,e13]at ha0
  subst ha0
  clear hu g1 g2 g3 e2 s2 e4 s4 e6 s6 e7 s7 e10 s10 e11 s11 e12 s12 e13 s13
  have HST:=Lib.hid hst
  have hm:=(HD.out.keep hst.old).mbox
  have hm0:=hm.cell 0
  have hml:=hm.lt
  have hp:=HG.out.pa
  clear hst hm
  by_cases hb0:b=0
  ·have hbe:((b:Int)==0)=true:=by rw[hb0];rfl
   clear hb0
   by_cases hlt:(i:Int)<params
   ·have HLA:=Lib.hid (show 0≤(i:Int)∧(i:Int)<4 from by omega)
    have HLB:=Lib.hid (show 0≤(i:Int)∧(i:Int)<100000 from by omega)
    have HLC:=Lib.hid (show 0≤(i:Int)∧(i:Int)<S from by omega)
    have HCC:=Lib.hid (show i≤100000 from by omega)
    go_upto_region 19 with fail
    clear hm0 hml hbe
    refine wp_region_since_tail 6 rfl (by decide +kernel) (by decide +kernel) (by decide +kernel) (by decide)
     [Is (.pointer (some ⟨yq,0,none⟩)),Is v,Is (.int .i64 i),Is (.int .i64 i),Is (.agg #[.int .i64 31,.int .i64 0,.int .i64 0,.int .i64 i,.int .i64 0,.int .i64 0,.int .i32 i,.slice none 0 0,.int .i64 (-1)]),GoodRow wY.heap.size S 1]
     (by repeat (first | exact trivial | refine⟨Is.stable _,?_⟩ | refine⟨GoodRow.stable _ _ _,?_⟩)) ⟨?_,?_,?_,?_,?_,?_,trivial⟩ ?_
    rotate_right
    ·intro vs w5 hs hk
     simp only[List.take,List.drop,putAll,Act.put,KnowsAll,nthF,Is,List.setIfInBounds_toArray,List.set_cons_zero,List.set_cons_succ,Nat.reduceAdd]at hk ⊢
     try simp only[hk]
     obtain⟨ys,hyl,hyr,hyg⟩:GoodRow wY.heap.size S 1 (vs 5) w5:=by exact hk.2.2.2.2.2.1
     generalize vs 5=xv at *
     have HY5:=Lib.hid (HST.out.keep hs)
     have HYL:=Lib.hid hyl
     have HYR:=Lib.hid hyr
     have HYG:=Lib.hid hyg
     have HLE:=Lib.hid (show xs.length+ys.length≤1000000 from by have:=HST.out.few;have:=HCC.out;omega)
     clear hk hs hyl hyr hyg
     go_wp2_with (refine wpList_append_rows (base:=wY.heap.size) plcells 9 plcells_len (by decide) rfl _ _ 54 rfl 58 (.agg #[.int .i64 0,.int .i64 0,.int .i64 0,.int .i64 0,.int .i64 0,.int .i64 0,.int .i32 0,.slice none 0 0,.int .i64 0]) 88 Try.underlying54 (by kernel_rfl) rfl (by decide) v xv xs ys rfl rfl HY5.out.row (srcRow plcells_len (by decide) HYR.out) (pl_one HYG.out) HLE.out HY5.out.old.size ?_;intro v' w6 hown ht hnew;obtain⟨va2,vc2,hv2⟩:=own_shape (show w6.ownsRow _ _ _ _ _ _ from hown);obtain⟨l2,hl2⟩:∃ z,(xs++ys).length=z:=⟨_,rfl⟩;rw[hl2]at hv2;subst hv2;have HOWN:=Lib.hid hown;have HT6:=Lib.hid ht;have HNW:=Lib.hid hnew;have hb6:=HY5.out.box.turn ht (own_not HY5.out.row HY5.out.box (by decide));have h6l:=hb6.lt;have h6f:=hb6.frozen;have h6c:=hb6.cell 0;clear hown ht hnew hb6 hl2)
     exact HK9.out (4-(i+1)) _ _ (by omega) ⟨i+1,_,_,rfl,by omega,(frV_mk rfl rfl (sl_cons rfl (sl_cons rfl (sl_cons rfl (sl_cons rfl (sl_cons rfl (sl_cons rfl (sl_cons rfl (sl_cons rfl (sl_nil _)))))))))),HY5.out.put HOWN.out HT6.out HYG.out (by have:=HY5.out.few;have:=HYL.out;omega)⟩
    all_goals
     intro vs w5 hs hk _
     simp only[List.take,putAll,Act.put,Knows,nthF,Is,List.setIfInBounds_toArray,List.set_cons_zero,List.set_cons_succ,Nat.reduceAdd]at hk ⊢
     try simp only[hk]
    ·go_wp2
     exact⟨_,rfl,rfl,Since.refl _⟩
    ·have hbx:HeapIs w5 yq #[v,.int .i64 0,.int .i64 0,.int .i64 0,.slice none 0 0,.int .i32 0] 56:=HST.out.box.keep hs
     have hc:=hbx.cell 0
     have hl:=hbx.lt
     clear hbx
     go_wp2
     exact⟨_,rfl,rfl,Since.refl _⟩
    ·go_wp2
     exact⟨_,rfl,rfl,Since.refl _⟩
    ·go_wp2
     exact⟨_,rfl,rfl,Since.refl _⟩
    ·clear hk
     go_wp2_with fail
     refine (laid31_any i i w5 HLA.out HLB.out).mono ?_
     rintro e w6 ⟨rfl,hs6⟩
     go_wp2
     exact⟨_,rfl,rfl,hs6⟩
    ·clear hk
     go_wp2
     exact⟨_,rfl,⟨[laidP 31 i i],Nat.le_refl 1,row31 (HeapIs.new _ _ _),fun y hy=>by rw[List.mem_singleton.1 hy];exact PlNew.laid (.inr rfl) HLA.out HLC.out HG.out.Sle⟩,(Since.refl _).alloc _⟩
   ·go_wp2_with fail
    exact HQ.out _ _ v xs (frV_mk rfl rfl (sl_cons rfl (sl_cons rfl (sl_cons rfl (sl_cons rfl (sl_cons rfl (sl_cons rfl (sl_cons rfl (sl_nil _))))))))) (HST.out.more (by omega))
  ·have hbe:((b:Int)==0)=false:=by rw[beq_eq_false_iff_ne];omega
   clear hb0
   go_wp2_with fail
   exact HQ.out _ _ v xs (frV_mk rfl rfl (sl_cons rfl (sl_cons rfl (sl_cons rfl (sl_cons rfl (sl_cons rfl (sl_cons rfl (sl_cons rfl (sl_nil _))))))))) (HST.out.more (by omega))
end Go.Proofs.Ytkpbmbhejpmboaa
