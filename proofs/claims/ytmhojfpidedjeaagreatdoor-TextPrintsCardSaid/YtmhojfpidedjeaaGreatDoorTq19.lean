/- jacquardref03's digits and row. -/
import Derived.Test.YtmhojfpidedjeaaGreatDoorTq05
namespace Go.Proofs.YtmhojfpidedjeaaGreatDoor
open Go.RowKit
set_option linter.unusedVariables false
def d3 (n:Int):Bs:=Lib.itoa n++[32]
def row3 (l:List Int):Bs:=91::(l.flatMap d3++[93])
def In63 (n:Int):Prop:=-9223372036854775807≤n∧n≤9223372036854775807
def d3Meas (u:Value) (f:Value):Nat:=2*(intOf u).toNat+(match f with | .bool true=>1 | _=>0)
theorem d3_len (n:Int) (h:In63 n):(d3 n).length≤22:=by
 have:=Lib.itoa_length_le n (by have:=h.1;omega) (by have:=h.2;omega)
 unfold d3;simp only[List.length_append,List.length_cons,List.length_nil];omega
set_option maxHeartbeats 2000000 in
set_option maxRecDepth 100000 in
theorem digits_any (n:Int) (w:World) (hn:In63 n):Calls Tryz.prog 81 #[.int .i64 n] w (StrQ ⟨(d3 n).toArray⟩ w):=by
 obtain⟨U,hU⟩:∃ U:Nat,n.natAbs=U:=⟨_,rfl⟩
 obtain⟨hn1,hn2⟩:=hn
 have hUl:U≤9223372036854775807:=by omega
 obtain⟨z,hz⟩:∃ z:ByteArray,⟨(d3 n).toArray⟩=z:=⟨_,rfl⟩
 rw[hz]
 have HOUT:=Lib.hid (show if n<0 then (⟨#[45]⟩++decB U)++⟨#[32]⟩=z else decB U++⟨#[32]⟩=z from by
  rw[←hz]
  by_cases hneg:n<0
  ·rw[if_pos hneg]
   apply bytes_ext
   rw[bytes_app,bytes_app]
   unfold decB d3
   rw[itoa_neg hneg,hU];rfl
  ·rw[if_neg hneg]
   apply bytes_ext
   rw[bytes_app]
   unfold decB d3
   rw[itoa_pos hneg,show n.toNat=U from by omega])
 clear hz
 have HU:=Lib.hid hU
 go_enter Tryz.func81,Tryz.ntmps81
 by_cases hneg:n<0
 ·obtain rfl:n=-(U:Int):=by omega
  have hw:(0:Int) - -(U:Int)=(U:Int):=by omega
  clear hU
  go_wp2_with fail
  go_loopw [3,4,5] (fun so uo fo wr=>∃ (u:Nat) (out:ByteArray) (fi:Bool),so=.string out∧uo=.int .i64 u∧fo=.bool fi∧u≤U∧((fi=true∧u=U∧out=⟨#[]⟩)∨(fi=false∧(u<U∨U=0)∧Behind U u out))∧Since w wr) (fun _ uo fo _=>d3Meas uo fo)
  case atStart=>exact⟨U,_,true,rfl,by first | rfl | (rw[hw]) | simp,rfl,Nat.le_refl _,.inl ⟨rfl,rfl,rfl⟩,Since.refl _⟩
  case round =>
   obtain⟨u,out,fi,rfl,rfl,rfl,huU,hB,hs⟩:=hrel
   have HS:=Lib.hid hs
   clear hs
   have hdg:¬ (u:Int) % 10<0:=by omega
   have hcv:=conv_one wr (48+(u:Int) % 10)
   rw[dig_u8]at hcv
   have hz1:(digB (u % 10)).size=1:=rfl
   rcases hB with ⟨rfl,rfl,rfl⟩|⟨rfl,hlu,hB⟩
   ·have HN:=Lib.hid (behind_first u)
    have he:=bytes_empty (digB (u % 10))
    go_wp2
    go_roundw
    case rel=>exact⟨u / 10,_,false,rfl,by simp,rfl,by omega,.inr ⟨rfl,by omega,HN.out⟩,HS.out.alloc _⟩
    case measure=>simp[d3Meas,intOf];omega
   ·have hz:=behind_len hB (by omega)
    have HB:=Lib.hid hB
    clear hB
    by_cases h0:0<u
    ·have HN:=Lib.hid (behind_next HB.out (by omega))
     go_wp2
     go_roundw
     case rel=>exact⟨u / 10,_,false,rfl,by simp,rfl,by omega,.inr ⟨rfl,by omega,HN.out⟩,HS.out.alloc _⟩
     case measure=>simp[d3Meas,intOf];omega
    ·obtain rfl:0=u:=by omega
     obtain rfl:out=decB U:=by have:=HB.out;unfold Behind at this;rwa [if_pos rfl]at this
     have hfin:=HOUT.out
     rw[if_pos (by omega)]at hfin
     clear hcv hdg
     go_wp2
     try rw[hfin]
     go_ret
     exact⟨rfl,HS.out⟩
 ·obtain rfl:n=(U:Int):=by omega
  clear hU
  go_wp2_with fail
  go_loopw [3,4,5] (fun so uo fo wr=>∃ (u:Nat) (out:ByteArray) (fi:Bool),so=.string out∧uo=.int .i64 u∧fo=.bool fi∧u≤U∧((fi=true∧u=U∧out=⟨#[]⟩)∨(fi=false∧(u<U∨U=0)∧Behind U u out))∧Since w wr) (fun _ uo fo _=>d3Meas uo fo)
  case atStart=>exact⟨U,_,true,rfl,by first | rfl | (rw[hw]) | simp,rfl,Nat.le_refl _,.inl ⟨rfl,rfl,rfl⟩,Since.refl _⟩
  case round =>
   obtain⟨u,out,fi,rfl,rfl,rfl,huU,hB,hs⟩:=hrel
   have HS:=Lib.hid hs
   clear hs
   have hdg:¬ (u:Int) % 10<0:=by omega
   have hcv:=conv_one wr (48+(u:Int) % 10)
   rw[dig_u8]at hcv
   have hz1:(digB (u % 10)).size=1:=rfl
   rcases hB with ⟨rfl,rfl,rfl⟩|⟨rfl,hlu,hB⟩
   ·have HN:=Lib.hid (behind_first u)
    have he:=bytes_empty (digB (u % 10))
    go_wp2
    go_roundw
    case rel=>exact⟨u / 10,_,false,rfl,by simp,rfl,by omega,.inr ⟨rfl,by omega,HN.out⟩,HS.out.alloc _⟩
    case measure=>simp[d3Meas,intOf];omega
   ·have hz:=behind_len hB (by omega)
    have HB:=Lib.hid hB
    clear hB
    by_cases h0:0<u
    ·have HN:=Lib.hid (behind_next HB.out (by omega))
     go_wp2
     go_roundw
     case rel=>exact⟨u / 10,_,false,rfl,by simp,rfl,by omega,.inr ⟨rfl,by omega,HN.out⟩,HS.out.alloc _⟩
     case measure=>simp[d3Meas,intOf];omega
    ·obtain rfl:0=u:=by omega
     obtain rfl:out=decB U:=by have:=HB.out;unfold Behind at this;rwa [if_pos rfl]at this
     have hfin:=HOUT.out
     rw[if_neg (by omega)]at hfin
     clear hcv hdg
     go_wp2
     try rw[hfin]
     go_ret
     exact⟨rfl,HS.out⟩
set_option maxHeartbeats 1000000 in
set_option maxRecDepth 100000 in
theorem row3_any (v:Value) (l:List Int) (w:World) (hl:Ints w v l) (hr:∀ x∈l,In63 x) (hn:(l.flatMap d3).length≤1000000000000):Calls Tryz.prog 82 #[v] w (StrQ ⟨(row3 l).toArray⟩ w):=by
 obtain⟨a,c,rfl⟩:=nums_lenI hl
 have hll:=Nums.len hl
 unfold maxLen at hll
 have HL:=Lib.hid hl
 have HR:=Lib.hid hr
 have HN:=Lib.hid hn
 clear hl hr hn
 go_enter Tryz.func82,Tryz.ntmps82
 go_wp2_with fail
 go_loopw [3,4] (fun so io wr=>∃ (k:Nat) (out:ByteArray),out=⟨(91::(l.take k).flatMap d3).toArray⟩∧so=.string out∧io=.int .i64 k∧k≤l.length∧Since w wr) (fun _ io _=>l.length-(intOf io).toNat)
 case atStart=>exact⟨0,_,rfl,rfl,rfl,Nat.zero_le _,Since.refl _⟩
 case round =>
  obtain⟨k,out,ho,rfl,rfl,hk,hs⟩:=hrel
  have HO:=Lib.hid ho
  have HS:=Lib.hid hs
  have hos:out.size≤1000000000001:=by
   rw[ho,bs_size,List.length_cons]
   have h1:=flat_take d3 l k
   have:=HN.out
   omega
  by_cases hlt:k<l.length
  ·obtain⟨b,off,x,rfl,hb,hx,hc⟩:=nums_at HL.out hlt
   have hcx:=(hs.cell (p:=⟨b,off+k,none⟩) hb).trans hc
   have hbl:b<wr.heap.size:=Nat.lt_of_lt_of_le hb hs.size
   obtain⟨z,hz⟩:∃ z:ByteArray,⟨(d3 x).toArray⟩=z:=⟨_,rfl⟩
   have hxr:=HR.out x (List.mem_of_getElem? hx)
   have hd:=digits_any x wr hxr
   rw[hz]at hd
   have HD:=Lib.hid hd
   have hzz:z.size≤22:=by rw[←hz,bs_size];exact d3_len x hxr
   have HX:=Lib.hid (show out++z=⟨(91::(l.take (k+1)).flatMap d3).toArray⟩ from by rw[ho,←hz,bs_app,flat_next d3 hx];rfl)
   clear hd hs ho hz hx hc hb hxr
   go_wp2_with fail
   refine HD.out.mono ?_
   rintro e w2 ⟨rfl,hs2⟩
   have HS2:=Lib.hid (HS.out.trans hs2)
   clear hs2
   go_wp2
   go_roundw
   case rel=>exact⟨k+1,_,HX.out,rfl,by go_num,by omega,HS2.out⟩
   case measure=>simp[intOf];omega
  ·obtain rfl:l.length=k:=by omega
   rw[List.take_length]at HO
   have HF:=Lib.hid (show out++⟨#[93]⟩=⟨(row3 l).toArray⟩ from by rw[HO.out];apply bytes_ext;rw[bytes_app];unfold row3;simp)
   clear ho hs
   go_wp2
   try rw[HF.out]
   go_ret
   exact⟨rfl,HS.out⟩
end Go.Proofs.YtmhojfpidedjeaaGreatDoor
