/- The document's numbers: jacquardref25.d, all. The document's rows of numbers: jacquardref25.all. The document's lines of instructions and terms. (Printed by tools/gen_text/rins.py.) jacquardref03's digits and row. -/
import Derived.Test.YtmhojfpidedjeaaGreatDoorTb02
import Derived.Test.YtmhojfpidedjeaaGreatDoorTb05
import Derived.Laws.BytesString
namespace Go.Proofs.YtmhojfpidedjeaaGreatDoor
open Go.RowKit
set_option linter.unusedVariables false
def dMeas (s u:Value):Nat:=2*(intOf u).toNat+(match s with | .string b=>if b.size=0 then 1 else 0 | _=>0)
theorem behind_ne {U u:Nat} {out:ByteArray} (h:Behind U u out) (hu:u<U∨U=0):out≠ByteArray.empty:=by
 intro e
 subst e
 unfold Behind at h
 split at h
 ·have:decB U=ByteArray.empty:=h.symm
  have h2:=congrArg (fun b:ByteArray=>b.data.toList) this
  exact decDigits_ne U h2
 ·have h2:Lib.decDigits u++[]=Lib.decDigits U:=h
  rw[List.append_nil]at h2
  have h3:=valD_digits u
  rw[h2,valD_digits]at h3
  omega
theorem conv_one (w:World) (c:Int):(convert 63 9 (.slice (some ⟨w.heap.size,0,none⟩) 1 1)).run Tryz.prog (w.alloc (.cells #[.int .u8 c] 5))=.ok (.string ⟨#[UInt8.ofNat c.toNat]⟩) (w.alloc (.cells #[.int .u8 c] 5)):=by
 rw[run_convert_bytes_string _ _ _ _ _ _ _ Tryz.underlying63 Tryz.underlying5 Tryz.underlying9]
 rw[run_bytesToString _ _ 1 1 [c] (by simp[go_sem])]
 rfl
theorem dig_u8 (u:Nat):(⟨#[UInt8.ofNat (48+(u:Int) % 10).toNat]⟩:ByteArray)=digB (u % 10):=by
 unfold digB
 rw[show (48+(u:Int) % 10).toNat=48+u % 10 from by omega]
theorem bytes_empty (b:ByteArray):b++⟨#[]⟩=b:=by
 apply bytes_ext;rw[bytes_app];simp
theorem dmeas_first (u d:Nat):dMeas (.string (digB d)) (.int .u64 ((u / 10:Nat):Int))<dMeas (.string ⟨#[]⟩) (.int .u64 (u:Int)):=by
 have e1:(digB d).size=1:=rfl
 have e2:(⟨#[]⟩:ByteArray).size=0:=rfl
 show 2*((u / 10:Nat):Int).toNat+(if (digB d).size=0 then 1 else 0)<2*(u:Int).toNat+(if (⟨#[]⟩:ByteArray).size=0 then 1 else 0)
 rw[e1,e2,if_neg (by decide),if_pos rfl]
 omega
theorem dmeas_next (u d:Nat) (out:ByteArray) (h:0<u):dMeas (.string (digB d++out)) (.int .u64 ((u / 10:Nat):Int))<dMeas (.string out) (.int .u64 (u:Int)):=by
 have e1:(digB d++out).size≠0:=by rw[ByteArray.size_append];have:(digB d).size=1:=rfl;omega
 show 2*((u / 10:Nat):Int).toNat+(if (digB d++out).size=0 then 1 else 0)<2*(u:Int).toNat+(if out.size=0 then 1 else 0)
 rw[if_neg e1]
 omega
theorem behind_len {U u:Nat} {out:ByteArray} (h:Behind U u out) (hU:U≤9223372036854775808):out.size≤22:=by
 have h1:=Lib.itoa_length_le (-(U:Int)) (by omega) (by omega)
 have h2:out.data.toList.length=out.size:=Array.length_toList
 have h3:(Lib.decDigits U).length≤22:=by
  by_cases h0:U=0
  ·subst h0;rw[decDigits_small (by decide)];simp
  ·rw[itoa_neg (by omega)]at h1
   simp only[List.length_cons,Int.natAbs_neg,Int.natAbs_natCast]at h1
   omega
 unfold Behind at h
 split at h
 ·rw[h]at h2
  have h4:(decB U).data.toList.length=(Lib.decDigits U).length:=rfl
  rw[h];omega
 ·rw[←h,List.length_append]at h3;omega
set_option maxHeartbeats 2000000 in
set_option maxRecDepth 100000 in
theorem rd_any (n:Int) (w:World) (hn:In64 n):Calls Tryz.prog 27 #[.int .i64 n] w (StrQ ⟨(dS n).toArray⟩ w):=by
 obtain⟨U,hU⟩:∃ U:Nat,n.natAbs=U:=⟨_,rfl⟩
 obtain⟨hn1,hn2⟩:=hn
 have hUl:U≤9223372036854775808:=by omega
 by_cases hneg:n<0
 ·obtain rfl:n=-(U:Int):=by omega
  have HT:=Lib.hid (show (⟨#[32]⟩:ByteArray)++(⟨#[45]⟩++decB U)=⟨(dS (-(U:Int))).toArray⟩ from by
   apply bytes_ext
   rw[bytes_app,bytes_app]
   unfold decB dS
   rw[itoa_neg hneg,hU];rfl)
  have HW:=Lib.hid (show IntKind.u64.wrap (-IntKind.u64.wrap (-(U:Int)))=(U:Int) from by unfold IntKind.wrap;simp[IntKind.signed,IntKind.bits];omega)
  clear hU
  go_enter Tryz.func27,Tryz.ntmps27
  go_wp2_with fail
  go_loopw [3,4] (fun so uo wr=>∃ (u:Nat) (out:ByteArray),so=.string out∧uo=.int .u64 u∧u≤U∧((u=U∧out=⟨#[]⟩)∨((u<U∨U=0)∧Behind U u out))∧Since w wr) (fun so uo _=>dMeas so uo)
  case atStart=>exact⟨U,_,rfl,by rw[HW.out],Nat.le_refl _,.inl ⟨rfl,rfl⟩,Since.refl _⟩
  case round =>
   obtain⟨u,out,rfl,rfl,huU,hB,hs⟩:=hrel
   have HS:=Lib.hid hs
   clear hs
   rcases hB with ⟨rfl,rfl⟩|⟨hlu,hB⟩
   ·have HN:=Lib.hid (behind_first u)
    have hcv:=conv_one wr (48+(u:Int) % 10)
    rw[dig_u8]at hcv
    have HM:=Lib.hid (dmeas_first u (u % 10))
    have he:=bytes_empty (digB (u % 10))
    have hz:(digB (u % 10)).size=1:=rfl
    by_cases h0:0<u
    ·go_wp2
     go_roundw
     case rel=>exact⟨u / 10,_,rfl,by simp,by omega,.inr ⟨by omega,HN.out⟩,HS.out.alloc _⟩
     case measure=>simpa using HM.out
    ·exfalso;omega
   ·have hz:=behind_len hB (by omega)
    have hne:(out.toList==[])=false:=by rw[ByteArray.toList_eq,beq_eq_false_iff_ne];intro e;exact behind_ne hB hlu (bytes_ext e)
    have HNE:=Lib.hid (behind_ne hB hlu)
    have HB:=Lib.hid hB
    clear hB
    by_cases h0:0<u
    ·have HN:=Lib.hid (behind_next HB.out (by omega))
     have hcv:=conv_one wr (48+(u:Int) % 10)
     rw[dig_u8]at hcv
     have hz1:(digB (u % 10)).size=1:=rfl
     have HM:=Lib.hid (dmeas_next u (u % 10) out h0)
     go_wp2
     go_roundw
     case rel=>exact⟨u / 10,_,rfl,by simp,by omega,.inr ⟨by omega,HN.out⟩,HS.out.alloc _⟩
     case measure=>simpa using HM.out
    ·obtain rfl:0=u:=by omega
     obtain rfl:out=decB U:=by have:=HB.out;unfold Behind at this;rwa [if_pos rfl]at this
     go_wp2
     try rw[HT.out]
     go_ret
     exact⟨rfl,HS.out⟩
 ·obtain rfl:n=(U:Int):=by omega
  have HT:=Lib.hid (show (⟨#[32]⟩:ByteArray)++decB U=⟨(dS (U:Int)).toArray⟩ from by
   apply bytes_ext
   rw[bytes_app]
   unfold decB dS
   rw[itoa_pos hneg];rfl)
  clear hU
  go_enter Tryz.func27,Tryz.ntmps27
  go_wp2_with fail
  go_loopw [3,4] (fun so uo wr=>∃ (u:Nat) (out:ByteArray),so=.string out∧uo=.int .u64 u∧u≤U∧((u=U∧out=⟨#[]⟩)∨((u<U∨U=0)∧Behind U u out))∧Since w wr) (fun so uo _=>dMeas so uo)
  case atStart=>exact⟨U,_,rfl,rfl,Nat.le_refl _,.inl ⟨rfl,rfl⟩,Since.refl _⟩
  case round =>
   obtain⟨u,out,rfl,rfl,huU,hB,hs⟩:=hrel
   have HS:=Lib.hid hs
   clear hs
   rcases hB with ⟨rfl,rfl⟩|⟨hlu,hB⟩
   ·have HN:=Lib.hid (behind_first u)
    have hcv:=conv_one wr (48+(u:Int) % 10)
    rw[dig_u8]at hcv
    have HM:=Lib.hid (dmeas_first u (u % 10))
    have he:=bytes_empty (digB (u % 10))
    have hz:(digB (u % 10)).size=1:=rfl
    by_cases h0:0<u
    ·go_wp2
     go_roundw
     case rel=>exact⟨u / 10,_,rfl,by simp,by omega,.inr ⟨by omega,HN.out⟩,HS.out.alloc _⟩
     case measure=>simpa using HM.out
    ·go_wp2
     go_roundw
     case rel=>exact⟨u / 10,_,rfl,by simp,by omega,.inr ⟨by omega,HN.out⟩,HS.out.alloc _⟩
     case measure=>simpa using HM.out
   ·have hz:=behind_len hB (by omega)
    have hne:(out.toList==[])=false:=by rw[ByteArray.toList_eq,beq_eq_false_iff_ne];intro e;exact behind_ne hB hlu (bytes_ext e)
    have HNE:=Lib.hid (behind_ne hB hlu)
    have HB:=Lib.hid hB
    clear hB
    by_cases h0:0<u
    ·have HN:=Lib.hid (behind_next HB.out (by omega))
     have hcv:=conv_one wr (48+(u:Int) % 10)
     rw[dig_u8]at hcv
     have hz1:(digB (u % 10)).size=1:=rfl
     have HM:=Lib.hid (dmeas_next u (u % 10) out h0)
     go_wp2
     go_roundw
     case rel=>exact⟨u / 10,_,rfl,by simp,by omega,.inr ⟨by omega,HN.out⟩,HS.out.alloc _⟩
     case measure=>simpa using HM.out
    ·obtain rfl:0=u:=by omega
     obtain rfl:out=decB U:=by have:=HB.out;unfold Behind at this;rwa [if_pos rfl]at this
     go_wp2
     try rw[HT.out]
     go_ret
     exact⟨rfl,HS.out⟩
theorem bs_app (a b:Bs):(⟨a.toArray⟩:ByteArray)++⟨b.toArray⟩=⟨(a++b).toArray⟩:=by apply bytes_ext;rw[bytes_app]
theorem bs_size (a:Bs):(⟨a.toArray⟩:ByteArray).size=a.length:=by rw[←bytes_len]
set_option maxHeartbeats 1000000 in
set_option maxRecDepth 100000 in
theorem rall_any (v:Value) (l:List Int) (w:World) (hl:Ints w v l) (hr:∀ x∈l,In64 x) (hn:(allS l).length≤1000000000000):Calls Tryz.prog 50 #[v] w (StrQ ⟨(allS l).toArray⟩ w):=by
 obtain⟨a,c,rfl⟩:=nums_lenI hl
 have hll:=Nums.len hl
 unfold maxLen at hll
 have HL:=Lib.hid hl
 have HR:=Lib.hid hr
 have HN:=Lib.hid hn
 clear hl hr hn
 go_enter Tryz.func50,Tryz.ntmps50
 go_wp2_with fail
 go_loopw [3,4] (fun so io wr=>∃ (k:Nat) (out:ByteArray),out=⟨((l.take k).flatMap dS).toArray⟩∧so=.string out∧io=.int .i64 k∧k≤l.length∧Since w wr) (fun _ io _=>l.length-(intOf io).toNat)
 case atStart=>exact⟨0,⟨#[]⟩,rfl,rfl,rfl,Nat.zero_le _,Since.refl _⟩
 case round =>
  obtain⟨k,out,ho,rfl,rfl,hk,hs⟩:=hrel
  have HO:=Lib.hid ho
  have HS:=Lib.hid hs
  by_cases hlt:k<l.length
  ·obtain⟨b,off,x,rfl,hb,hx,hc⟩:=nums_at HL.out hlt
   have hcx:=(hs.cell (p:=⟨b,off+k,none⟩) hb).trans hc
   have hbl:b<wr.heap.size:=Nat.lt_of_lt_of_le hb hs.size
   obtain⟨z,hz⟩:∃ z:ByteArray,⟨(dS x).toArray⟩=z:=⟨_,rfl⟩
   have hd:=rd_any x wr (HR.out x (List.mem_of_getElem? hx))
   rw[hz]at hd
   have HD:=Lib.hid hd
   have hzz:¬ 9223372036854775807<out.size+z.size:=by
    rw[ho,←hz,bs_size,bs_size]
    have h1:=flat_take dS l (k+1)
    rw[flat_next dS hx,List.length_append]at h1
    have:=HN.out
    unfold allS at this
    omega
   have HX:=Lib.hid (show out++z=⟨((l.take (k+1)).flatMap dS).toArray⟩ from by rw[ho,←hz,bs_app,flat_next dS hx])
   clear hd hs ho hz hx hc hb
   go_wp2_with fail
   refine HD.out.mono ?_
   rintro e w2 ⟨rfl,hs2⟩
   have HS2:=Lib.hid (HS.out.trans hs2)
   clear hs2
   go_wp2
   go_roundw
   case rel=>exact⟨k+1,_,HX.out,rfl,by go_num,by omega,HS2.out⟩
   case measure=>simp[intOf];omega
  ·obtain rfl:l.length=k:=by omega
   rw[List.take_length]at HO
   clear ho hs
   go_wp2
   go_ret
   exact⟨by rw[HO.out];rfl,HS.out⟩
theorem in64 {x : Int} (h:In32W x):In64 x:=⟨by have:=h.1;omega,by have:=h.2;omega⟩
set_option maxHeartbeats 8000000 in
set_option maxRecDepth 100000 in
theorem rins25_any (x:FIns) (w:World) (hA:FInsIn w x) (hx:InsR x) (hn:(insS x.d).length≤1000000000):Calls Tryz.prog 28 #[fiv x] w (StrQ ⟨(insS x.d).toArray⟩ w):=by
 obtain⟨op,dst,two,args,av,imm⟩:=x
 replace hA:Ints w av args:=hA
 obtain⟨aa,ac,e⟩:=nums_lenI hA
 obtain rfl:av=.slice aa args.length ac:=e
 unfold fiv
 have HA:=Lib.hid hA
 have HX:=Lib.hid hx
 have HN:=Lib.hid hn
 have hi1:=hx.imm.1
 have hi2:=hx.imm.2
 dsimp only at hi1 hi2
 clear hA hx hn
 obtain⟨y,hy⟩:∃ y,nameF op=y:=⟨_,rfl⟩
 have HY:=Lib.hid hy
 have hnm:=fun w1=>rname_any op w1 HX.out.op
 rw[hy]at hnm
 have HNM:=Lib.hid hnm
 clear hnm hy
 go_enter Tryz.func28,Tryz.ntmps28
 go_wp2_with fail
 refine (HNM.out _).mono ?_
 rintro e w1 ⟨rfl,hs⟩
 have hx1:=(HeapIs.new w #[.int .i64 op,.int .i64 dst,.int .i64 two,.slice aa args.length ac,.int .i32 imm] 51).keep hs
 have HQ:=Lib.hid hx1
 have HSW:=Lib.hid (((Since.refl w).alloc (.cells #[.int .i64 op,.int .i64 dst,.int .i64 two,.slice aa args.length ac,.int .i32 imm] 51)).trans hs)
 have c0:w1.cell? ⟨w.heap.size,0,none⟩=some (.int .i64 op):=hx1.cell 0
 have hl1:=hx1.lt
 clear hs hx1
 by_cases h1:op=1
 ·subst h1
  obtain⟨z0,hz0⟩:∃ z:ByteArray,⟨(dS dst).toArray⟩=z:=⟨_,rfl⟩
  have hd0:=fun W (_:Since w W)=>rd_any dst W HX.out.dst
  rw[hz0]at hd0
  have HD0:=Lib.hid hd0
  obtain⟨z1,hz1⟩:∃ z:ByteArray,⟨(dS imm).toArray⟩=z:=⟨_,rfl⟩
  have hd1:=fun W (_:Since w W)=>rd_any imm W (in64 HX.out.imm)
  rw[hz1]at hd1
  have HD1:=Lib.hid hd1
  have he:y++z0++z1=⟨(insS (FIns.d ⟨1,dst,two,args,.slice aa args.length ac,imm⟩)).toArray⟩:=by
   apply bytes_ext
   rw[bytes_app,bytes_app,←HY.out,←hz0,←hz1]
   simp[insS,FIns.d,opS,dS]
  have HE:=Lib.hid he
  have hsz:y.size+z0.size+z1.size≤1000000000:=by
   have h1:=HN.out
   rw[←bs_size,←he]at h1
   simpa only [ByteArray.size_append]using h1
  have hf0:¬ 9223372036854775807<y.size+z0.size:=by omega
  have hf1:¬ 9223372036854775807<y.size+z0.size+z1.size:=by omega
  clear hsz he hz0 hd0 hz1 hd1
  go_wp2_with fail
  clear c0 hl1
  refine wp_region_list_facts rfl (by decide +kernel) (by decide +kernel)
   [Is (.string y),Is (.pointer (some ⟨w.heap.size,1,none⟩)),Is (.int .i64 dst),Is (.string z0),Is (.string (y++z0)),Is (.pointer (some ⟨w.heap.size,4,none⟩)),Is (.int .i32 imm),Is (.int .i64 imm),Is (.string z1),Is (.string (y++z0++z1)),Is (.string (y++z0++z1))]
   (by repeat (first | exact trivial | refine⟨Is.stable _,?_⟩ | refine⟨IsNums.stable _ _,?_⟩ | refine⟨IsRows.stable _ _,?_⟩)) ⟨?_,?_,?_,?_,?_,?_,?_,?_,?_,?_,?_,trivial⟩ ?_
  all_goals
   intro vs w9 hs hk
   simp only[putAll,Act.put,Knows,KnowsAll,nthF,Is,List.setIfInBounds_toArray,List.set_cons_zero,List.set_cons_succ,Nat.reduceAdd,List.length_cons,List.length_nil]at hk ⊢
   try simp only[hk]
  ·go_wp2
   exact⟨_,rfl,rfl,Since.refl _⟩
  ·go_wp2
   exact⟨_,rfl,rfl,Since.refl _⟩
  ·have hq:=HQ.out.keep hs
   have hqc:w9.cell? ⟨w.heap.size,1,none⟩=some (.int .i64 dst):=hq.cell 1
   have hql:=hq.lt
   go_wp2
   exact⟨_,rfl,rfl,Since.refl _⟩
  ·go_wp2_with fail
   refine (HD0.out _ (HSW.out.trans hs)).mono ?_
   rintro e w2 ⟨rfl,hs2⟩
   go_wp2
   exact⟨_,rfl,rfl,hs2⟩
  ·go_wp2
   exact⟨_,rfl,rfl,Since.refl _⟩
  ·go_wp2
   exact⟨_,rfl,rfl,Since.refl _⟩
  ·have hq:=HQ.out.keep hs
   have hqc:w9.cell? ⟨w.heap.size,4,none⟩=some (.int .i32 imm):=hq.cell 4
   have hql:=hq.lt
   go_wp2
   exact⟨_,rfl,rfl,Since.refl _⟩
  ·go_wp2
   exact⟨_,rfl,rfl,Since.refl _⟩
  ·go_wp2_with fail
   refine (HD1.out _ (HSW.out.trans hs)).mono ?_
   rintro e w2 ⟨rfl,hs2⟩
   go_wp2
   exact⟨_,rfl,rfl,hs2⟩
  ·go_wp2
   exact⟨_,rfl,rfl,Since.refl _⟩
  ·go_wp2
   exact⟨_,rfl,rfl,Since.refl _⟩
  ·rw[HE.out]
   have HS9:=Lib.hid (HSW.out.trans hs)
   clear hs hk
   go_wp2
   go_ret
   exact⟨rfl,HS9.out⟩
 ·by_cases h2:2≤op∧op≤14
  ·obtain⟨h2,h3⟩:=h2
   have e1:(op==1)=false:=by simpa using h1
   obtain⟨z0,hz0⟩:∃ z:ByteArray,⟨(dS dst).toArray⟩=z:=⟨_,rfl⟩
   have hd0:=fun W (_:Since w W)=>rd_any dst W HX.out.dst
   rw[hz0]at hd0
   have HD0:=Lib.hid hd0
   obtain⟨z1,hz1⟩:∃ z:ByteArray,⟨(allS args).toArray⟩=z:=⟨_,rfl⟩
   have HL1:=Lib.hid (show (allS args).length≤1000000000 from by have:=HN.out;simp only[insS,FIns.d,h1,h2,h3]at this;simp at this;omega)
   have hd1:=fun W (h:Since w W)=>rall_any (.slice aa args.length ac) args W (Nums.keep HA.out h) HX.out.args (by have:=HL1.out;omega)
   rw[hz1]at hd1
   have HD1:=Lib.hid hd1
   have he:y++z0++z1=⟨(insS (FIns.d ⟨op,dst,two,args,.slice aa args.length ac,imm⟩)).toArray⟩:=by
    apply bytes_ext
    rw[bytes_app,bytes_app,←HY.out,←hz0,←hz1]
    simp[insS,FIns.d,opS,h1,h2,h3]
   have HE:=Lib.hid he
   have hsz:y.size+z0.size+z1.size≤1000000000:=by
    have h1:=HN.out
    rw[←bs_size,←he]at h1
    simpa only [ByteArray.size_append]using h1
   have hf0:¬ 9223372036854775807<y.size+z0.size:=by omega
   have hf1:¬ 9223372036854775807<y.size+z0.size+z1.size:=by omega
   clear hsz he hz0 hd0 hz1 hd1
   clear h1
   go_wp2_with fail
   clear c0 hl1 e1 h2 h3
   refine wp_region_list_facts rfl (by decide +kernel) (by decide +kernel)
    [Is (.string y),Is (.pointer (some ⟨w.heap.size,1,none⟩)),Is (.int .i64 dst),Is (.string z0),Is (.string (y++z0)),Is (.pointer (some ⟨w.heap.size,3,none⟩)),Is (.slice aa args.length ac),Is (.string z1),Is (.string (y++z0++z1)),Is (.string (y++z0++z1))]
    (by repeat (first | exact trivial | refine⟨Is.stable _,?_⟩ | refine⟨IsNums.stable _ _,?_⟩ | refine⟨IsRows.stable _ _,?_⟩)) ⟨?_,?_,?_,?_,?_,?_,?_,?_,?_,?_,trivial⟩ ?_
   all_goals
    intro vs w9 hs hk
    simp only[putAll,Act.put,Knows,KnowsAll,nthF,Is,List.setIfInBounds_toArray,List.set_cons_zero,List.set_cons_succ,Nat.reduceAdd,List.length_cons,List.length_nil]at hk ⊢
    try simp only[hk]
   ·go_wp2
    exact⟨_,rfl,rfl,Since.refl _⟩
   ·go_wp2
    exact⟨_,rfl,rfl,Since.refl _⟩
   ·have hq:=HQ.out.keep hs
    have hqc:w9.cell? ⟨w.heap.size,1,none⟩=some (.int .i64 dst):=hq.cell 1
    have hql:=hq.lt
    go_wp2
    exact⟨_,rfl,rfl,Since.refl _⟩
   ·go_wp2_with fail
    refine (HD0.out _ (HSW.out.trans hs)).mono ?_
    rintro e w2 ⟨rfl,hs2⟩
    go_wp2
    exact⟨_,rfl,rfl,hs2⟩
   ·go_wp2
    exact⟨_,rfl,rfl,Since.refl _⟩
   ·go_wp2
    exact⟨_,rfl,rfl,Since.refl _⟩
   ·have hq:=HQ.out.keep hs
    have hqc:w9.cell? ⟨w.heap.size,3,none⟩=some (.slice aa args.length ac):=hq.cell 3
    have hql:=hq.lt
    go_wp2
    exact⟨_,rfl,rfl,Since.refl _⟩
   ·go_wp2_with fail
    refine (HD1.out _ (HSW.out.trans hs)).mono ?_
    rintro e w2 ⟨rfl,hs2⟩
    go_wp2
    exact⟨_,rfl,rfl,hs2⟩
   ·go_wp2
    exact⟨_,rfl,rfl,Since.refl _⟩
   ·go_wp2
    exact⟨_,rfl,rfl,Since.refl _⟩
   ·rw[HE.out]
    have HS9:=Lib.hid (HSW.out.trans hs)
    clear hs hk
    go_wp2
    go_ret
    exact⟨rfl,HS9.out⟩
  ·by_cases h15:op=15
   ·subst h15
    clear h1 h2
    obtain⟨z0,hz0⟩:∃ z:ByteArray,⟨(dS dst).toArray⟩=z:=⟨_,rfl⟩
    have hd0:=fun W (_:Since w W)=>rd_any dst W HX.out.dst
    rw[hz0]at hd0
    have HD0:=Lib.hid hd0
    obtain⟨z1,hz1⟩:∃ z:ByteArray,⟨(allS args).toArray⟩=z:=⟨_,rfl⟩
    have HL1:=Lib.hid (show (allS args).length≤1000000000 from by have:=HN.out;simp only[insS,FIns.d,dS]at this;simp at this;omega)
    have hd1:=fun W (h:Since w W)=>rall_any (.slice aa args.length ac) args W (Nums.keep HA.out h) HX.out.args (by have:=HL1.out;omega)
    rw[hz1]at hd1
    have HD1:=Lib.hid hd1
    obtain⟨z2,hz2⟩:∃ z:ByteArray,⟨(dS imm).toArray⟩=z:=⟨_,rfl⟩
    have hd2:=fun W (_:Since w W)=>rd_any imm W (in64 HX.out.imm)
    rw[hz2]at hd2
    have HD2:=Lib.hid hd2
    have he:y++z0++z1++z2=⟨(insS (FIns.d ⟨15,dst,two,args,.slice aa args.length ac,imm⟩)).toArray⟩:=by
     apply bytes_ext
     rw[bytes_app,bytes_app,bytes_app,←HY.out,←hz0,←hz1,←hz2]
     simp[insS,FIns.d,opS,dS]
    have HE:=Lib.hid he
    have hsz:y.size+z0.size+z1.size+z2.size≤1000000000:=by
     have h1:=HN.out
     rw[←bs_size,←he]at h1
     simpa only [ByteArray.size_append]using h1
    have hf0:¬ 9223372036854775807<y.size+z0.size:=by omega
    have hf1:¬ 9223372036854775807<y.size+z0.size+z1.size:=by omega
    have hf2:¬ 9223372036854775807<y.size+z0.size+z1.size+z2.size:=by omega
    clear hsz he hz0 hd0 hz1 hd1 hz2 hd2
    go_wp2_with fail
    clear c0 hl1
    refine wp_region_list_facts rfl (by decide +kernel) (by decide +kernel)
     [Is (.string y),Is (.pointer (some ⟨w.heap.size,1,none⟩)),Is (.int .i64 dst),Is (.string z0),Is (.string (y++z0)),Is (.pointer (some ⟨w.heap.size,3,none⟩)),Is (.slice aa args.length ac),Is (.string z1),Is (.string (y++z0++z1)),Is (.pointer (some ⟨w.heap.size,4,none⟩)),Is (.int .i32 imm),Is (.int .i64 imm),Is (.string z2),Is (.string (y++z0++z1++z2)),Is (.string (y++z0++z1++z2))]
     (by repeat (first | exact trivial | refine⟨Is.stable _,?_⟩ | refine⟨IsNums.stable _ _,?_⟩ | refine⟨IsRows.stable _ _,?_⟩)) ⟨?_,?_,?_,?_,?_,?_,?_,?_,?_,?_,?_,?_,?_,?_,?_,trivial⟩ ?_
    all_goals
     intro vs w9 hs hk
     simp only[putAll,Act.put,Knows,KnowsAll,nthF,Is,List.setIfInBounds_toArray,List.set_cons_zero,List.set_cons_succ,Nat.reduceAdd,List.length_cons,List.length_nil]at hk ⊢
     try simp only[hk]
    ·go_wp2
     exact⟨_,rfl,rfl,Since.refl _⟩
    ·go_wp2
     exact⟨_,rfl,rfl,Since.refl _⟩
    ·have hq:=HQ.out.keep hs
     have hqc:w9.cell? ⟨w.heap.size,1,none⟩=some (.int .i64 dst):=hq.cell 1
     have hql:=hq.lt
     go_wp2
     exact⟨_,rfl,rfl,Since.refl _⟩
    ·go_wp2_with fail
     refine (HD0.out _ (HSW.out.trans hs)).mono ?_
     rintro e w2 ⟨rfl,hs2⟩
     go_wp2
     exact⟨_,rfl,rfl,hs2⟩
    ·go_wp2
     exact⟨_,rfl,rfl,Since.refl _⟩
    ·go_wp2
     exact⟨_,rfl,rfl,Since.refl _⟩
    ·have hq:=HQ.out.keep hs
     have hqc:w9.cell? ⟨w.heap.size,3,none⟩=some (.slice aa args.length ac):=hq.cell 3
     have hql:=hq.lt
     go_wp2
     exact⟨_,rfl,rfl,Since.refl _⟩
    ·go_wp2_with fail
     refine (HD1.out _ (HSW.out.trans hs)).mono ?_
     rintro e w2 ⟨rfl,hs2⟩
     go_wp2
     exact⟨_,rfl,rfl,hs2⟩
    ·go_wp2
     exact⟨_,rfl,rfl,Since.refl _⟩
    ·go_wp2
     exact⟨_,rfl,rfl,Since.refl _⟩
    ·have hq:=HQ.out.keep hs
     have hqc:w9.cell? ⟨w.heap.size,4,none⟩=some (.int .i32 imm):=hq.cell 4
     have hql:=hq.lt
     go_wp2
     exact⟨_,rfl,rfl,Since.refl _⟩
    ·go_wp2
     exact⟨_,rfl,rfl,Since.refl _⟩
    ·go_wp2_with fail
     refine (HD2.out _ (HSW.out.trans hs)).mono ?_
     rintro e w2 ⟨rfl,hs2⟩
     go_wp2
     exact⟨_,rfl,rfl,hs2⟩
    ·go_wp2
     exact⟨_,rfl,rfl,Since.refl _⟩
    ·go_wp2
     exact⟨_,rfl,rfl,Since.refl _⟩
    ·rw[HE.out]
     have HS9:=Lib.hid (HSW.out.trans hs)
     clear hs hk
     go_wp2
     go_ret
     exact⟨rfl,HS9.out⟩
   ·by_cases h16:op=16
    ·subst h16
     clear h1 h2 h15
     obtain⟨z0,hz0⟩:∃ z:ByteArray,⟨(allS args).toArray⟩=z:=⟨_,rfl⟩
     have HL0:=Lib.hid (show (allS args).length≤1000000000 from by have:=HN.out;simp only[insS,FIns.d,dS]at this;simp at this;omega)
     have hd0:=fun W (h:Since w W)=>rall_any (.slice aa args.length ac) args W (Nums.keep HA.out h) HX.out.args (by have:=HL0.out;omega)
     rw[hz0]at hd0
     have HD0:=Lib.hid hd0
     obtain⟨z1,hz1⟩:∃ z:ByteArray,⟨(dS imm).toArray⟩=z:=⟨_,rfl⟩
     have hd1:=fun W (_:Since w W)=>rd_any imm W (in64 HX.out.imm)
     rw[hz1]at hd1
     have HD1:=Lib.hid hd1
     have he:y++z0++z1=⟨(insS (FIns.d ⟨16,dst,two,args,.slice aa args.length ac,imm⟩)).toArray⟩:=by
      apply bytes_ext
      rw[bytes_app,bytes_app,←HY.out,←hz0,←hz1]
      simp[insS,FIns.d,opS,dS]
     have HE:=Lib.hid he
     have hsz:y.size+z0.size+z1.size≤1000000000:=by
      have h1:=HN.out
      rw[←bs_size,←he]at h1
      simpa only [ByteArray.size_append]using h1
     have hf0:¬ 9223372036854775807<y.size+z0.size:=by omega
     have hf1:¬ 9223372036854775807<y.size+z0.size+z1.size:=by omega
     clear hsz he hz0 hd0 hz1 hd1
     go_wp2_with fail
     clear c0 hl1
     refine wp_region_list_facts rfl (by decide +kernel) (by decide +kernel)
      [Is (.string y),Is (.pointer (some ⟨w.heap.size,3,none⟩)),Is (.slice aa args.length ac),Is (.string z0),Is (.string (y++z0)),Is (.pointer (some ⟨w.heap.size,4,none⟩)),Is (.int .i32 imm),Is (.int .i64 imm),Is (.string z1),Is (.string (y++z0++z1)),Is (.string (y++z0++z1))]
      (by repeat (first | exact trivial | refine⟨Is.stable _,?_⟩ | refine⟨IsNums.stable _ _,?_⟩ | refine⟨IsRows.stable _ _,?_⟩)) ⟨?_,?_,?_,?_,?_,?_,?_,?_,?_,?_,?_,trivial⟩ ?_
     all_goals
      intro vs w9 hs hk
      simp only[putAll,Act.put,Knows,KnowsAll,nthF,Is,List.setIfInBounds_toArray,List.set_cons_zero,List.set_cons_succ,Nat.reduceAdd,List.length_cons,List.length_nil]at hk ⊢
      try simp only[hk]
     ·go_wp2
      exact⟨_,rfl,rfl,Since.refl _⟩
     ·go_wp2
      exact⟨_,rfl,rfl,Since.refl _⟩
     ·have hq:=HQ.out.keep hs
      have hqc:w9.cell? ⟨w.heap.size,3,none⟩=some (.slice aa args.length ac):=hq.cell 3
      have hql:=hq.lt
      go_wp2
      exact⟨_,rfl,rfl,Since.refl _⟩
     ·go_wp2_with fail
      refine (HD0.out _ (HSW.out.trans hs)).mono ?_
      rintro e w2 ⟨rfl,hs2⟩
      go_wp2
      exact⟨_,rfl,rfl,hs2⟩
     ·go_wp2
      exact⟨_,rfl,rfl,Since.refl _⟩
     ·go_wp2
      exact⟨_,rfl,rfl,Since.refl _⟩
     ·have hq:=HQ.out.keep hs
      have hqc:w9.cell? ⟨w.heap.size,4,none⟩=some (.int .i32 imm):=hq.cell 4
      have hql:=hq.lt
      go_wp2
      exact⟨_,rfl,rfl,Since.refl _⟩
     ·go_wp2
      exact⟨_,rfl,rfl,Since.refl _⟩
     ·go_wp2_with fail
      refine (HD1.out _ (HSW.out.trans hs)).mono ?_
      rintro e w2 ⟨rfl,hs2⟩
      go_wp2
      exact⟨_,rfl,rfl,hs2⟩
     ·go_wp2
      exact⟨_,rfl,rfl,Since.refl _⟩
     ·go_wp2
      exact⟨_,rfl,rfl,Since.refl _⟩
     ·rw[HE.out]
      have HS9:=Lib.hid (HSW.out.trans hs)
      clear hs hk
      go_wp2
      go_ret
      exact⟨rfl,HS9.out⟩
    ·by_cases h17:op=17
     ·subst h17
      clear h1 h2 h15 h16
      obtain⟨z0,hz0⟩:∃ z:ByteArray,⟨(dS dst).toArray⟩=z:=⟨_,rfl⟩
      have hd0:=fun W (_:Since w W)=>rd_any dst W HX.out.dst
      rw[hz0]at hd0
      have HD0:=Lib.hid hd0
      obtain⟨z1,hz1⟩:∃ z:ByteArray,⟨(dS imm).toArray⟩=z:=⟨_,rfl⟩
      have hd1:=fun W (_:Since w W)=>rd_any imm W (in64 HX.out.imm)
      rw[hz1]at hd1
      have HD1:=Lib.hid hd1
      obtain⟨z2,hz2⟩:∃ z:ByteArray,⟨(allS args).toArray⟩=z:=⟨_,rfl⟩
      have HL2:=Lib.hid (show (allS args).length≤1000000000 from by have:=HN.out;simp only[insS,FIns.d,dS]at this;simp at this;omega)
      have hd2:=fun W (h:Since w W)=>rall_any (.slice aa args.length ac) args W (Nums.keep HA.out h) HX.out.args (by have:=HL2.out;omega)
      rw[hz2]at hd2
      have HD2:=Lib.hid hd2
      have he:y++z0++z1++z2=⟨(insS (FIns.d ⟨17,dst,two,args,.slice aa args.length ac,imm⟩)).toArray⟩:=by
       apply bytes_ext
       rw[bytes_app,bytes_app,bytes_app,←HY.out,←hz0,←hz1,←hz2]
       simp[insS,FIns.d,opS,dS]
      have HE:=Lib.hid he
      have hsz:y.size+z0.size+z1.size+z2.size≤1000000000:=by
       have h1:=HN.out
       rw[←bs_size,←he]at h1
       simpa only [ByteArray.size_append]using h1
      have hf0:¬ 9223372036854775807<y.size+z0.size:=by omega
      have hf1:¬ 9223372036854775807<y.size+z0.size+z1.size:=by omega
      have hf2:¬ 9223372036854775807<y.size+z0.size+z1.size+z2.size:=by omega
      clear hsz he hz0 hd0 hz1 hd1 hz2 hd2
      go_wp2_with fail
      clear c0 hl1
      refine wp_region_list_facts rfl (by decide +kernel) (by decide +kernel)
       [Is (.string y),Is (.pointer (some ⟨w.heap.size,1,none⟩)),Is (.int .i64 dst),Is (.string z0),Is (.string (y++z0)),Is (.pointer (some ⟨w.heap.size,4,none⟩)),Is (.int .i32 imm),Is (.int .i64 imm),Is (.string z1),Is (.string (y++z0++z1)),Is (.pointer (some ⟨w.heap.size,3,none⟩)),Is (.slice aa args.length ac),Is (.string z2),Is (.string (y++z0++z1++z2)),Is (.string (y++z0++z1++z2))]
       (by repeat (first | exact trivial | refine⟨Is.stable _,?_⟩ | refine⟨IsNums.stable _ _,?_⟩ | refine⟨IsRows.stable _ _,?_⟩)) ⟨?_,?_,?_,?_,?_,?_,?_,?_,?_,?_,?_,?_,?_,?_,?_,trivial⟩ ?_
      all_goals
       intro vs w9 hs hk
       simp only[putAll,Act.put,Knows,KnowsAll,nthF,Is,List.setIfInBounds_toArray,List.set_cons_zero,List.set_cons_succ,Nat.reduceAdd,List.length_cons,List.length_nil]at hk ⊢
       try simp only[hk]
      ·go_wp2
       exact⟨_,rfl,rfl,Since.refl _⟩
      ·go_wp2
       exact⟨_,rfl,rfl,Since.refl _⟩
      ·have hq:=HQ.out.keep hs
       have hqc:w9.cell? ⟨w.heap.size,1,none⟩=some (.int .i64 dst):=hq.cell 1
       have hql:=hq.lt
       go_wp2
       exact⟨_,rfl,rfl,Since.refl _⟩
      ·go_wp2_with fail
       refine (HD0.out _ (HSW.out.trans hs)).mono ?_
       rintro e w2 ⟨rfl,hs2⟩
       go_wp2
       exact⟨_,rfl,rfl,hs2⟩
      ·go_wp2
       exact⟨_,rfl,rfl,Since.refl _⟩
      ·go_wp2
       exact⟨_,rfl,rfl,Since.refl _⟩
      ·have hq:=HQ.out.keep hs
       have hqc:w9.cell? ⟨w.heap.size,4,none⟩=some (.int .i32 imm):=hq.cell 4
       have hql:=hq.lt
       go_wp2
       exact⟨_,rfl,rfl,Since.refl _⟩
      ·go_wp2
       exact⟨_,rfl,rfl,Since.refl _⟩
      ·go_wp2_with fail
       refine (HD1.out _ (HSW.out.trans hs)).mono ?_
       rintro e w2 ⟨rfl,hs2⟩
       go_wp2
       exact⟨_,rfl,rfl,hs2⟩
      ·go_wp2
       exact⟨_,rfl,rfl,Since.refl _⟩
      ·go_wp2
       exact⟨_,rfl,rfl,Since.refl _⟩
      ·have hq:=HQ.out.keep hs
       have hqc:w9.cell? ⟨w.heap.size,3,none⟩=some (.slice aa args.length ac):=hq.cell 3
       have hql:=hq.lt
       go_wp2
       exact⟨_,rfl,rfl,Since.refl _⟩
      ·go_wp2_with fail
       refine (HD2.out _ (HSW.out.trans hs)).mono ?_
       rintro e w2 ⟨rfl,hs2⟩
       go_wp2
       exact⟨_,rfl,rfl,hs2⟩
      ·go_wp2
       exact⟨_,rfl,rfl,Since.refl _⟩
      ·go_wp2
       exact⟨_,rfl,rfl,Since.refl _⟩
      ·rw[HE.out]
       have HS9:=Lib.hid (HSW.out.trans hs)
       clear hs hk
       go_wp2
       go_ret
       exact⟨rfl,HS9.out⟩
     ·by_cases h18:op=18
      ·subst h18
       clear h1 h2 h15 h16 h17
       obtain⟨z0,hz0⟩:∃ z:ByteArray,⟨(dS dst).toArray⟩=z:=⟨_,rfl⟩
       have hd0:=fun W (_:Since w W)=>rd_any dst W HX.out.dst
       rw[hz0]at hd0
       have HD0:=Lib.hid hd0
       obtain⟨z1,hz1⟩:∃ z:ByteArray,⟨(dS two).toArray⟩=z:=⟨_,rfl⟩
       have hd1:=fun W (_:Since w W)=>rd_any two W HX.out.two
       rw[hz1]at hd1
       have HD1:=Lib.hid hd1
       obtain⟨z2,hz2⟩:∃ z:ByteArray,⟨(allS args).toArray⟩=z:=⟨_,rfl⟩
       have HL2:=Lib.hid (show (allS args).length≤1000000000 from by have:=HN.out;simp only[insS,FIns.d,dS]at this;simp at this;omega)
       have hd2:=fun W (h:Since w W)=>rall_any (.slice aa args.length ac) args W (Nums.keep HA.out h) HX.out.args (by have:=HL2.out;omega)
       rw[hz2]at hd2
       have HD2:=Lib.hid hd2
       have he:y++z0++z1++z2=⟨(insS (FIns.d ⟨18,dst,two,args,.slice aa args.length ac,imm⟩)).toArray⟩:=by
        apply bytes_ext
        rw[bytes_app,bytes_app,bytes_app,←HY.out,←hz0,←hz1,←hz2]
        simp[insS,FIns.d,opS,dS]
       have HE:=Lib.hid he
       have hsz:y.size+z0.size+z1.size+z2.size≤1000000000:=by
        have h1:=HN.out
        rw[←bs_size,←he]at h1
        simpa only [ByteArray.size_append]using h1
       have hf0:¬ 9223372036854775807<y.size+z0.size:=by omega
       have hf1:¬ 9223372036854775807<y.size+z0.size+z1.size:=by omega
       have hf2:¬ 9223372036854775807<y.size+z0.size+z1.size+z2.size:=by omega
       clear hsz he hz0 hd0 hz1 hd1 hz2 hd2
       go_wp2_with fail
       clear c0 hl1
       refine wp_region_list_facts rfl (by decide +kernel) (by decide +kernel)
        [Is (.string y),Is (.pointer (some ⟨w.heap.size,1,none⟩)),Is (.int .i64 dst),Is (.string z0),Is (.string (y++z0)),Is (.pointer (some ⟨w.heap.size,2,none⟩)),Is (.int .i64 two),Is (.string z1),Is (.string (y++z0++z1)),Is (.pointer (some ⟨w.heap.size,3,none⟩)),Is (.slice aa args.length ac),Is (.string z2),Is (.string (y++z0++z1++z2)),Is (.string (y++z0++z1++z2))]
        (by repeat (first | exact trivial | refine⟨Is.stable _,?_⟩ | refine⟨IsNums.stable _ _,?_⟩ | refine⟨IsRows.stable _ _,?_⟩)) ⟨?_,?_,?_,?_,?_,?_,?_,?_,?_,?_,?_,?_,?_,?_,trivial⟩ ?_
       all_goals
        intro vs w9 hs hk
        simp only[putAll,Act.put,Knows,KnowsAll,nthF,Is,List.setIfInBounds_toArray,List.set_cons_zero,List.set_cons_succ,Nat.reduceAdd,List.length_cons,List.length_nil]at hk ⊢
        try simp only[hk]
       ·go_wp2
        exact⟨_,rfl,rfl,Since.refl _⟩
       ·go_wp2
        exact⟨_,rfl,rfl,Since.refl _⟩
       ·have hq:=HQ.out.keep hs
        have hqc:w9.cell? ⟨w.heap.size,1,none⟩=some (.int .i64 dst):=hq.cell 1
        have hql:=hq.lt
        go_wp2
        exact⟨_,rfl,rfl,Since.refl _⟩
       ·go_wp2_with fail
        refine (HD0.out _ (HSW.out.trans hs)).mono ?_
        rintro e w2 ⟨rfl,hs2⟩
        go_wp2
        exact⟨_,rfl,rfl,hs2⟩
       ·go_wp2
        exact⟨_,rfl,rfl,Since.refl _⟩
       ·go_wp2
        exact⟨_,rfl,rfl,Since.refl _⟩
       ·have hq:=HQ.out.keep hs
        have hqc:w9.cell? ⟨w.heap.size,2,none⟩=some (.int .i64 two):=hq.cell 2
        have hql:=hq.lt
        go_wp2
        exact⟨_,rfl,rfl,Since.refl _⟩
       ·go_wp2_with fail
        refine (HD1.out _ (HSW.out.trans hs)).mono ?_
        rintro e w2 ⟨rfl,hs2⟩
        go_wp2
        exact⟨_,rfl,rfl,hs2⟩
       ·go_wp2
        exact⟨_,rfl,rfl,Since.refl _⟩
       ·go_wp2
        exact⟨_,rfl,rfl,Since.refl _⟩
       ·have hq:=HQ.out.keep hs
        have hqc:w9.cell? ⟨w.heap.size,3,none⟩=some (.slice aa args.length ac):=hq.cell 3
        have hql:=hq.lt
        go_wp2
        exact⟨_,rfl,rfl,Since.refl _⟩
       ·go_wp2_with fail
        refine (HD2.out _ (HSW.out.trans hs)).mono ?_
        rintro e w2 ⟨rfl,hs2⟩
        go_wp2
        exact⟨_,rfl,rfl,hs2⟩
       ·go_wp2
        exact⟨_,rfl,rfl,Since.refl _⟩
       ·go_wp2
        exact⟨_,rfl,rfl,Since.refl _⟩
       ·rw[HE.out]
        have HS9:=Lib.hid (HSW.out.trans hs)
        clear hs hk
        go_wp2
        go_ret
        exact⟨rfl,HS9.out⟩
      ·have h14:2≤op→¬ op≤14:=fun a b=>h2 ⟨a,b⟩
       by_cases ha:2≤op
       ·have hb:=h14 ha
        clear h14
        have he:(⟨#[63]⟩:ByteArray)=⟨(insS (FIns.d ⟨op,dst,two,args,.slice aa args.length ac,imm⟩)).toArray⟩:=by
         apply bytes_ext
         simp[insS,FIns.d,h1,h15,h16,h17,h18,hb]
        have HE:=Lib.hid he
        clear he
        clear h2
        go_wp2
        go_ret
        exact⟨by rw[←HE.out];rfl,HSW.out⟩
       ·clear h14
        have he:(⟨#[63]⟩:ByteArray)=⟨(insS (FIns.d ⟨op,dst,two,args,.slice aa args.length ac,imm⟩)).toArray⟩:=by
         apply bytes_ext
         simp[insS,FIns.d,h1,h2,h15,h16,h17,h18]
        have HE:=Lib.hid he
        clear he
        go_wp2
        go_ret
        exact⟨by rw[←HE.out];rfl,HSW.out⟩
def d3 (n:Int):Bs:=Lib.itoa n++[32]
def row3 (l:List Int):Bs:=91::(l.flatMap d3++[93])
def In63 (n:Int):Prop:=-9223372036854775807≤n∧n≤9223372036854775807
def d3Meas (u:Value) (f:Value):Nat:=2*(intOf u).toNat+(match f with | .bool true=>1 | _=>0)
theorem d3_len (n:Int) (h:In63 n):(d3 n).length≤22:=by
 have:=Lib.itoa_length_le n (by have:=h.1;omega) (by have:=h.2;omega)
 unfold d3;simp only[List.length_append,List.length_cons,List.length_nil];omega
set_option maxHeartbeats 2000000 in
set_option maxRecDepth 100000 in
theorem digits_any (n:Int) (w:World) (hn:In63 n):Calls Tryz.prog 81 #[.int .i64 n] w (StrQ ⟨(d3 n).toArray⟩ w):=by
 obtain⟨U,hU⟩:∃ U:Nat,n.natAbs=U:=⟨_,rfl⟩
 obtain⟨hn1,hn2⟩:=hn
 have hUl:U≤9223372036854775807:=by omega
 obtain⟨z,hz⟩:∃ z:ByteArray,⟨(d3 n).toArray⟩=z:=⟨_,rfl⟩
 rw[hz]
 have HOUT:=Lib.hid (show if n<0 then (⟨#[45]⟩++decB U)++⟨#[32]⟩=z else decB U++⟨#[32]⟩=z from by
  rw[←hz]
  by_cases hneg:n<0
  ·rw[if_pos hneg]
   apply bytes_ext
   rw[bytes_app,bytes_app]
   unfold decB d3
   rw[itoa_neg hneg,hU];rfl
  ·rw[if_neg hneg]
   apply bytes_ext
   rw[bytes_app]
   unfold decB d3
   rw[itoa_pos hneg,show n.toNat=U from by omega])
 clear hz
 have HU:=Lib.hid hU
 go_enter Tryz.func81,Tryz.ntmps81
 by_cases hneg:n<0
 ·obtain rfl:n=-(U:Int):=by omega
  have hw:(0:Int) - -(U:Int)=(U:Int):=by omega
  clear hU
  go_wp2_with fail
  go_loopw [3,4,5] (fun so uo fo wr=>∃ (u:Nat) (out:ByteArray) (fi:Bool),so=.string out∧uo=.int .i64 u∧fo=.bool fi∧u≤U∧((fi=true∧u=U∧out=⟨#[]⟩)∨(fi=false∧(u<U∨U=0)∧Behind U u out))∧Since w wr) (fun _ uo fo _=>d3Meas uo fo)
  case atStart=>exact⟨U,_,true,rfl,by first | rfl | (rw[hw]) | simp,rfl,Nat.le_refl _,.inl ⟨rfl,rfl,rfl⟩,Since.refl _⟩
  case round =>
   obtain⟨u,out,fi,rfl,rfl,rfl,huU,hB,hs⟩:=hrel
   have HS:=Lib.hid hs
   clear hs
   have hdg:¬ (u:Int) % 10<0:=by omega
   have hcv:=conv_one wr (48+(u:Int) % 10)
   rw[dig_u8]at hcv
   have hz1:(digB (u % 10)).size=1:=rfl
   rcases hB with ⟨rfl,rfl,rfl⟩|⟨rfl,hlu,hB⟩
   ·have HN:=Lib.hid (behind_first u)
    have he:=bytes_empty (digB (u % 10))
    go_wp2
    go_roundw
    case rel=>exact⟨u / 10,_,false,rfl,by simp,rfl,by omega,.inr ⟨rfl,by omega,HN.out⟩,HS.out.alloc _⟩
    case measure=>simp[d3Meas,intOf];omega
   ·have hz:=behind_len hB (by omega)
    have HB:=Lib.hid hB
    clear hB
    by_cases h0:0<u
    ·have HN:=Lib.hid (behind_next HB.out (by omega))
     go_wp2
     go_roundw
     case rel=>exact⟨u / 10,_,false,rfl,by simp,rfl,by omega,.inr ⟨rfl,by omega,HN.out⟩,HS.out.alloc _⟩
     case measure=>simp[d3Meas,intOf];omega
    ·obtain rfl:0=u:=by omega
     obtain rfl:out=decB U:=by have:=HB.out;unfold Behind at this;rwa [if_pos rfl]at this
     have hfin:=HOUT.out
     rw[if_pos (by omega)]at hfin
     clear hcv hdg
     go_wp2
     try rw[hfin]
     go_ret
     exact⟨rfl,HS.out⟩
 ·obtain rfl:n=(U:Int):=by omega
  clear hU
  go_wp2_with fail
  go_loopw [3,4,5] (fun so uo fo wr=>∃ (u:Nat) (out:ByteArray) (fi:Bool),so=.string out∧uo=.int .i64 u∧fo=.bool fi∧u≤U∧((fi=true∧u=U∧out=⟨#[]⟩)∨(fi=false∧(u<U∨U=0)∧Behind U u out))∧Since w wr) (fun _ uo fo _=>d3Meas uo fo)
  case atStart=>exact⟨U,_,true,rfl,by first | rfl | (rw[hw]) | simp,rfl,Nat.le_refl _,.inl ⟨rfl,rfl,rfl⟩,Since.refl _⟩
  case round =>
   obtain⟨u,out,fi,rfl,rfl,rfl,huU,hB,hs⟩:=hrel
   have HS:=Lib.hid hs
   clear hs
   have hdg:¬ (u:Int) % 10<0:=by omega
   have hcv:=conv_one wr (48+(u:Int) % 10)
   rw[dig_u8]at hcv
   have hz1:(digB (u % 10)).size=1:=rfl
   rcases hB with ⟨rfl,rfl,rfl⟩|⟨rfl,hlu,hB⟩
   ·have HN:=Lib.hid (behind_first u)
    have he:=bytes_empty (digB (u % 10))
    go_wp2
    go_roundw
    case rel=>exact⟨u / 10,_,false,rfl,by simp,rfl,by omega,.inr ⟨rfl,by omega,HN.out⟩,HS.out.alloc _⟩
    case measure=>simp[d3Meas,intOf];omega
   ·have hz:=behind_len hB (by omega)
    have HB:=Lib.hid hB
    clear hB
    by_cases h0:0<u
    ·have HN:=Lib.hid (behind_next HB.out (by omega))
     go_wp2
     go_roundw
     case rel=>exact⟨u / 10,_,false,rfl,by simp,rfl,by omega,.inr ⟨rfl,by omega,HN.out⟩,HS.out.alloc _⟩
     case measure=>simp[d3Meas,intOf];omega
    ·obtain rfl:0=u:=by omega
     obtain rfl:out=decB U:=by have:=HB.out;unfold Behind at this;rwa [if_pos rfl]at this
     have hfin:=HOUT.out
     rw[if_neg (by omega)]at hfin
     clear hcv hdg
     go_wp2
     try rw[hfin]
     go_ret
     exact⟨rfl,HS.out⟩
set_option maxHeartbeats 1000000 in
set_option maxRecDepth 100000 in
theorem row3_any (v:Value) (l:List Int) (w:World) (hl:Ints w v l) (hr:∀ x∈l,In63 x) (hn:(l.flatMap d3).length≤1000000000000):Calls Tryz.prog 82 #[v] w (StrQ ⟨(row3 l).toArray⟩ w):=by
 obtain⟨a,c,rfl⟩:=nums_lenI hl
 have hll:=Nums.len hl
 unfold maxLen at hll
 have HL:=Lib.hid hl
 have HR:=Lib.hid hr
 have HN:=Lib.hid hn
 clear hl hr hn
 go_enter Tryz.func82,Tryz.ntmps82
 go_wp2_with fail
 go_loopw [3,4] (fun so io wr=>∃ (k:Nat) (out:ByteArray),out=⟨(91::(l.take k).flatMap d3).toArray⟩∧so=.string out∧io=.int .i64 k∧k≤l.length∧Since w wr) (fun _ io _=>l.length-(intOf io).toNat)
 case atStart=>exact⟨0,_,rfl,rfl,rfl,Nat.zero_le _,Since.refl _⟩
 case round =>
  obtain⟨k,out,ho,rfl,rfl,hk,hs⟩:=hrel
  have HO:=Lib.hid ho
  have HS:=Lib.hid hs
  have hos:out.size≤1000000000001:=by
   rw[ho,bs_size,List.length_cons]
   have h1:=flat_take d3 l k
   have:=HN.out
   omega
  by_cases hlt:k<l.length
  ·obtain⟨b,off,x,rfl,hb,hx,hc⟩:=nums_at HL.out hlt
   have hcx:=(hs.cell (p:=⟨b,off+k,none⟩) hb).trans hc
   have hbl:b<wr.heap.size:=Nat.lt_of_lt_of_le hb hs.size
   obtain⟨z,hz⟩:∃ z:ByteArray,⟨(d3 x).toArray⟩=z:=⟨_,rfl⟩
   have hxr:=HR.out x (List.mem_of_getElem? hx)
   have hd:=digits_any x wr hxr
   rw[hz]at hd
   have HD:=Lib.hid hd
   have hzz:z.size≤22:=by rw[←hz,bs_size];exact d3_len x hxr
   have HX:=Lib.hid (show out++z=⟨(91::(l.take (k+1)).flatMap d3).toArray⟩ from by rw[ho,←hz,bs_app,flat_next d3 hx];rfl)
   clear hd hs ho hz hx hc hb hxr
   go_wp2_with fail
   refine HD.out.mono ?_
   rintro e w2 ⟨rfl,hs2⟩
   have HS2:=Lib.hid (HS.out.trans hs2)
   clear hs2
   go_wp2
   go_roundw
   case rel=>exact⟨k+1,_,HX.out,rfl,by go_num,by omega,HS2.out⟩
   case measure=>simp[intOf];omega
  ·obtain rfl:l.length=k:=by omega
   rw[List.take_length]at HO
   have HF:=Lib.hid (show out++⟨#[93]⟩=⟨(row3 l).toArray⟩ from by rw[HO.out];apply bytes_ext;rw[bytes_app];unfold row3;simp)
   clear ho hs
   go_wp2
   try rw[HF.out]
   go_ret
   exact⟨rfl,HS.out⟩
end Go.Proofs.YtmhojfpidedjeaaGreatDoor
