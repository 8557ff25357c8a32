import Derived.Test.YtmhojfpidedjeaaGreatDoorTp06
import Derived.Laws.BytesString
namespace Go.Proofs.YtmhojfpidedjeaaGreatDoor
open Go.RowKit Go.Lib
set_option linter.unusedVariables false
set_option maxHeartbeats 2000000
set_option maxRecDepth 100000
def dMeas (s u:Value):Nat:=2*(intOf u).toNat+(match s with | .string b=>if b.size=0 then 1 else 0 | _=>0)
theorem V4 {U u:Nat} {out:ByteArray} (h:Behind U u out) (hu:u<U∨U=0):out≠ByteArray.empty:=by
 intro e;subst e;unfold Behind at h;split at h
 ·have:Y0 U=ByteArray.empty:=h.symm;have h2:=congrArg (fun b:ByteArray=>b.data.toList) this;exact VP U h2
 ·have h2:Lib.decDigits u++[]=Lib.decDigits U:=h;rw[List.append_nil]at h2;have h3:=V5 u;rw[h2,V5]at h3;omega
theorem WV (w:World) (c:Int):(convert 63 9 (.slice (some ⟨w.heap.size,0,none⟩) 1 1)).run Tryz.prog (w.alloc (.cells #[.int .u8 c] 5))=.ok (.string ⟨#[UInt8.ofNat c.toNat]⟩) (w.alloc (.cells #[.int .u8 c] 5)):=by
 rw[run_convert_bytes_string _ _ _ _ _ _ _ Tryz.underlying63 Tryz.underlying5 Tryz.underlying9];rw[run_bytesToString _ _ 1 1 [c] (by simp[go_sem])];rfl
theorem Jd (u:Nat):(⟨#[UInt8.ofNat (48+(u:Int) % 10).toNat]⟩:ByteArray)=YV (u % 10):=by
 unfold YV;rw[show (48+(u:Int) % 10).toNat=48+u % 10 from by omega]
theorem W7 (b:ByteArray):b++⟨#[]⟩=b:=by
 apply Zn;rw[Zg];simp
theorem KN (u d:Nat):dMeas (.string (YV d)) (.int .u64 ((u / 10:Nat):Int))<dMeas (.string ⟨#[]⟩) (.int .u64 (u:Int)):=by
 have e1:(YV d).size=1:=rfl;have e2:(⟨#[]⟩:ByteArray).size=0:=rfl;show 2*((u / 10:Nat):Int).toNat+(if (YV d).size=0 then 1 else 0)<2*(u:Int).toNat+(if (⟨#[]⟩:ByteArray).size=0 then 1 else 0)
 rw[e1,e2,if_neg (by decide),if_pos rfl];omega
theorem QJ (u d:Nat) (out:ByteArray) (h:0<u):dMeas (.string (YV d++out)) (.int .u64 ((u / 10:Nat):Int))<dMeas (.string out) (.int .u64 (u:Int)):=by
 have e1:(YV d++out).size≠0:=by rw[ByteArray.size_append];have:(YV d).size=1:=rfl;omega
 show 2*((u / 10:Nat):Int).toNat+(if (YV d++out).size=0 then 1 else 0)<2*(u:Int).toNat+(if out.size=0 then 1 else 0)
 rw[if_neg e1];omega
theorem Vx {U u:Nat} {out:ByteArray} (h:Behind U u out) (hU:U≤9223372036854775808):out.size≤22:=by
 have h1:=Lib.itoa_length_le (-(U:Int)) (by omega) (by omega);have h2:out.data.toList.length=out.size:=Array.length_toList;have h3:(Lib.decDigits U).length≤22:=by
  by_cases h0:U=0
  ·subst h0;rw[Z6 (by decide)];simp
  ·rw[XX (by omega)]at h1;simp only[List.length_cons,Int.natAbs_neg,Int.natAbs_natCast]at h1;omega
 unfold Behind at h;split at h
 ·rw[h]at h2;have h4:(Y0 U).data.toList.length=(Lib.decDigits U).length:=rfl;rw[h];omega
 ·rw[←h,List.length_append]at h3;omega
theorem YL (n:Int) (w:World) (hn:ZO n):Calls Tryz.prog 27 #[.int .i64 n] w (Xl ⟨(dS n).toArray⟩ w):=by
 obtain⟨U,hU⟩:∃ U:Nat,n.natAbs=U:=⟨_,rfl⟩
 obtain⟨hj,hi⟩:=hn;have hk:U≤9223372036854775808:=by omega
 by_cases hc:n<0
 ·obtain rfl:n=-(U:Int):=by omega
  have HT:=hid (show (⟨#[32]⟩:ByteArray)++(⟨#[45]⟩++Y0 U)=⟨(dS (-(U:Int))).toArray⟩ from by
   apply Zn
   rw[Zg,Zg];unfold Y0 dS;rw[XX hc,hU];rfl)
  have HW:=zH (IntKind.u64.wrap (-IntKind.u64.wrap (-(U:Int)))=(U:Int)) (by unfold IntKind.wrap;simp[IntKind.signed,IntKind.bits];omega);clear hU;go_enter Tryz.func27,Tryz.ntmps27
  go_wp2_with fail
  go_loopw [3,4] (fun so uo wr=>∃ (u:Nat) (out:ByteArray),so=.string out∧uo=.int .u64 u∧u≤U∧((u=U∧out=⟨#[]⟩)∨((u<U∨U=0)∧Behind U u out))∧Since w wr) (fun so uo _=>dMeas so uo)
  case atStart=>exact⟨U,_,rfl,by rw[HW.out],Nat.le_refl _,.inl ⟨rfl,rfl⟩,.refl _⟩
  case round =>
   obtain⟨u,out,rfl,rfl,hf,hB,hs⟩:=hrel;have HS:=hid hs;clear hs;rcases hB with ⟨rfl,rfl⟩|⟨hb,hB⟩
   ·have HN:=hid (Xu u);have ha:=WV wr (48+(u:Int) % 10);rw[Jd]at ha;have HM:=hid (KN u (u % 10));have he:=W7 (YV (u % 10));have hz:(YV (u % 10)).size=1:=rfl;by_cases h0:0<u
    ·go_wp2
     go_roundw
     case rel=>exact⟨u / 10,_,rfl,by simp,by omega,.inr ⟨by omega,HN.out⟩,HS.out.alloc _⟩
     case measure=>simpa using HM.out
    ·exfalso;omega
   ·have hz:=Vx hB (by omega);have hg:(out.toList==[])=false:=by rw[ByteArray.toList_eq,beq_eq_false_iff_ne];intro e;exact V4 hB hb (Zn e)
    have hh:=hid (V4 hB hb);have HB:=hid hB;clear hB;by_cases h0:0<u
    ·have HN:=hid (XK HB.out (by omega));have ha:=WV wr (48+(u:Int) % 10);rw[Jd]at ha;have hd:(YV (u % 10)).size=1:=rfl;have HM:=hid (QJ u (u % 10) out h0);go_wp2
     go_roundw
     case rel=>exact⟨u / 10,_,rfl,by simp,by omega,.inr ⟨by omega,HN.out⟩,HS.out.alloc _⟩
     case measure=>simpa using HM.out
    ·obtain rfl:0=u:=by omega
     obtain rfl:out=Y0 U:=by have:=HB.out;unfold Behind at this;rwa [if_pos rfl]at this
     go_wp2
     try rw[HT.out]
     go_ret
     exact⟨rfl,HS.out⟩
 ·obtain rfl:n=(U:Int):=by omega
  have HT:=hid (show (⟨#[32]⟩:ByteArray)++Y0 U=⟨(dS (U:Int)).toArray⟩ from by
   apply Zn
   rw[Zg];unfold Y0 dS;rw[XB hc];rfl)
  clear hU;go_enter Tryz.func27,Tryz.ntmps27
  go_wp2_with fail
  go_loopw [3,4] (fun so uo wr=>∃ (u:Nat) (out:ByteArray),so=.string out∧uo=.int .u64 u∧u≤U∧((u=U∧out=⟨#[]⟩)∨((u<U∨U=0)∧Behind U u out))∧Since w wr) (fun so uo _=>dMeas so uo)
  case atStart=>exact⟨U,_,rfl,rfl,Nat.le_refl _,.inl ⟨rfl,rfl⟩,.refl _⟩
  case round =>
   obtain⟨u,out,rfl,rfl,hf,hB,hs⟩:=hrel;have HS:=hid hs;clear hs;rcases hB with ⟨rfl,rfl⟩|⟨hb,hB⟩
   ·have HN:=hid (Xu u);have ha:=WV wr (48+(u:Int) % 10);rw[Jd]at ha;have HM:=hid (KN u (u % 10));have he:=W7 (YV (u % 10));have hz:(YV (u % 10)).size=1:=rfl;by_cases h0:0<u
    iterate 2
     ·go_wp2
      go_roundw
      case rel=>exact⟨u / 10,_,rfl,by simp,by omega,.inr ⟨by omega,HN.out⟩,HS.out.alloc _⟩
      case measure=>simpa using HM.out
   ·have hz:=Vx hB (by omega);have hg:(out.toList==[])=false:=by rw[ByteArray.toList_eq,beq_eq_false_iff_ne];intro e;exact V4 hB hb (Zn e)
    have hh:=hid (V4 hB hb);have HB:=hid hB;clear hB;by_cases h0:0<u
    ·have HN:=hid (XK HB.out (by omega));have ha:=WV wr (48+(u:Int) % 10);rw[Jd]at ha;have hd:(YV (u % 10)).size=1:=rfl;have HM:=hid (QJ u (u % 10) out h0);go_wp2
     go_roundw
     case rel=>exact⟨u / 10,_,rfl,by simp,by omega,.inr ⟨by omega,HN.out⟩,HS.out.alloc _⟩
     case measure=>simpa using HM.out
    ·obtain rfl:0=u:=by omega
     obtain rfl:out=Y0 U:=by have:=HB.out;unfold Behind at this;rwa [if_pos rfl]at this
     go_wp2
     try rw[HT.out]
     go_ret
     exact⟨rfl,HS.out⟩
theorem ZbZ (a b:Bs):(⟨a.toArray⟩:ByteArray)++⟨b.toArray⟩=⟨(a++b).toArray⟩:=by apply Zn;rw[Zg]
theorem Zu (a:Bs):(⟨a.toArray⟩:ByteArray).size=a.length:=by rw[←Zq]
theorem Wi (v:Value) (l:List Int) (w:World) (hl:Zm w v l) (hr:∀ x∈l,ZO x) (hn:(allS l).length≤1000000000000):Calls Tryz.prog 50 #[v] w (Xl ⟨(allS l).toArray⟩ w):=by
 obtain⟨a,c,rfl⟩:=Zp hl;have hf:=ZN.len hl;unfold maxLen at hf;have HL:=hid hl;have HR:=hid hr;have HN:=hid hn;clear hl hr hn;go_enter Tryz.func50,Tryz.ntmps50
 go_wp2_with fail
 go_loopw [3,4] (fun so io wr=>∃ (k:Nat) (out:ByteArray),out=⟨((l.take k).flatMap dS).toArray⟩∧so=.string out∧io=.int .i64 k∧k≤l.length∧Since w wr) (fun _ io _=>l.length-(intOf io).toNat)
 case atStart=>exact⟨0,⟨#[]⟩,rfl,rfl,rfl,Nat.zero_le _,.refl _⟩
 case round =>
  obtain⟨k,out,ho,rfl,rfl,hk,hs⟩:=hrel;have HO:=hid ho;have HS:=hid hs;by_cases he:k<l.length
  ·obtain⟨b,off,x,rfl,hb,hx,hc⟩:=V9 HL.out he;have hi:=(hs.cell (p:=⟨b,off+k,none⟩) hb).trans hc;have hj:b<wr.heap.size:=Nat.lt_of_lt_of_le hb hs.size;obtain⟨z,hz⟩:∃ z:ByteArray,⟨(dS x).toArray⟩=z:=⟨_,rfl⟩
   have hd:=YL x wr (HR.out x (List.mem_of_getElem? hx));rw[hz]at hd;have HD:=hid hd;have hh:¬ 9223372036854775807<out.size+z.size:=by
    rw[ho,←hz,Zu,Zu];have h1:=Z3 dS l (k+1);rw[ZI dS hx,List.length_append]at h1;have:=HN.out;unfold allS at this;omega
   have HX:=zH (out++z=⟨((l.take (k+1)).flatMap dS).toArray⟩) (by rw[ho,←hz,ZbZ,ZI dS hx]);clear hd hs ho hz hx hc hb;go_wp2_with fail
   refine HD.out.mono ?_;rintro e w2 ⟨rfl,ha⟩;have hg:=hid (HS.out.trans ha);clear ha;go_wp2
   go_roundw
   case rel=>exact⟨k+1,_,HX.out,rfl,by go_num,by omega,hg.out⟩
   case measure=>simp[intOf];omega
  ·obtain rfl:l.length=k:=by omega
   rw[List.take_length]at HO;clear ho hs;go_wp2
   go_ret
   exact⟨by rw[HO.out];rfl,HS.out⟩
def d3 (n:Int):Bs:=Lib.itoa n++[32]
def Wx (l:List Int):Bs:=91::(l.flatMap d3++[93])
def Wm (n:Int):Prop:=-9223372036854775807≤n∧n≤9223372036854775807
def Je (u:Value) (f:Value):Nat:=2*(intOf u).toNat+(match f with | .bool true=>1 | _=>0)
theorem Xt (n:Int) (h:Wm n):(d3 n).length≤22:=by
 have:=Lib.itoa_length_le n (by have:=h.1;omega) (by have:=h.2;omega);unfold d3;simp only[List.length_append,List.length_cons,List.length_nil];omega
theorem YG (n:Int) (w:World) (hn:Wm n):Calls Tryz.prog 81 #[.int .i64 n] w (Xl ⟨(d3 n).toArray⟩ w):=by
 obtain⟨U,hU⟩:∃ U:Nat,n.natAbs=U:=⟨_,rfl⟩
 obtain⟨hk,hj⟩:=hn;have hl:U≤9223372036854775807:=by omega
 obtain⟨z,hz⟩:∃ z:ByteArray,⟨(d3 n).toArray⟩=z:=⟨_,rfl⟩
 rw[hz];have hf:=hid (show if n<0 then (⟨#[45]⟩++Y0 U)++⟨#[32]⟩=z else Y0 U++⟨#[32]⟩=z from by
  rw[←hz];by_cases ha:n<0
  ·rw[if_pos ha];apply Zn
   rw[Zg,Zg];unfold Y0 d3;rw[XX ha,hU];rfl
  ·rw[if_neg ha];apply Zn
   rw[Zg];unfold Y0 d3;rw[XB ha,show n.toNat=U from by omega])
 clear hz;have HU:=hid hU;go_enter Tryz.func81,Tryz.ntmps81
 by_cases ha:n<0
 ·obtain rfl:n=-(U:Int):=by omega
  have hw:(0:Int) - -(U:Int)=(U:Int):=by omega
  clear hU;go_wp2_with fail
  go_loopw [3,4,5] (fun so uo fo wr=>∃ (u:Nat) (out:ByteArray) (fi:Bool),so=.string out∧uo=.int .i64 u∧fo=.bool fi∧u≤U∧((fi=true∧u=U∧out=⟨#[]⟩)∨(fi=false∧(u<U∨U=0)∧Behind U u out))∧Since w wr) (fun _ uo fo _=>Je uo fo)
  case atStart=>exact⟨U,_,true,rfl,by first | rfl | (rw[hw]) | simp,rfl,Nat.le_refl _,.inl ⟨rfl,rfl,rfl⟩,.refl _⟩
  case round =>
   obtain⟨u,out,fi,rfl,rfl,rfl,hh,hB,hs⟩:=hrel;have HS:=hid hs;clear hs;have hd:¬ (u:Int) % 10<0:=by omega
   have hc:=WV wr (48+(u:Int) % 10);rw[Jd]at hc;have hg:(YV (u % 10)).size=1:=rfl;rcases hB with ⟨rfl,rfl,rfl⟩|⟨rfl,hi,hB⟩
   ·have HN:=hid (Xu u);have he:=W7 (YV (u % 10));go_wp2
    go_roundw
    case rel=>exact⟨u / 10,_,false,rfl,by simp,rfl,by omega,.inr ⟨rfl,by omega,HN.out⟩,HS.out.alloc _⟩
    case measure=>simp[Je,intOf];omega
   ·have hz:=Vx hB (by omega);have HB:=hid hB;clear hB;by_cases h0:0<u
    ·have HN:=hid (XK HB.out (by omega));go_wp2
     go_roundw
     case rel=>exact⟨u / 10,_,false,rfl,by simp,rfl,by omega,.inr ⟨rfl,by omega,HN.out⟩,HS.out.alloc _⟩
     case measure=>simp[Je,intOf];omega
    ·obtain rfl:0=u:=by omega
     obtain rfl:out=Y0 U:=by have:=HB.out;unfold Behind at this;rwa [if_pos rfl]at this
     have hb:=hf.out;rw[if_pos (by omega)]at hb;clear hc hd;go_wp2
     try rw[hb]
     go_ret
     exact⟨rfl,HS.out⟩
 ·obtain rfl:n=(U:Int):=by omega
  clear hU;go_wp2_with fail
  go_loopw [3,4,5] (fun so uo fo wr=>∃ (u:Nat) (out:ByteArray) (fi:Bool),so=.string out∧uo=.int .i64 u∧fo=.bool fi∧u≤U∧((fi=true∧u=U∧out=⟨#[]⟩)∨(fi=false∧(u<U∨U=0)∧Behind U u out))∧Since w wr) (fun _ uo fo _=>Je uo fo)
  case atStart=>exact⟨U,_,true,rfl,by first | rfl | (rw[hw]) | simp,rfl,Nat.le_refl _,.inl ⟨rfl,rfl,rfl⟩,.refl _⟩
  case round =>
   obtain⟨u,out,fi,rfl,rfl,rfl,hh,hB,hs⟩:=hrel;have HS:=hid hs;clear hs;have hd:¬ (u:Int) % 10<0:=by omega
   have hc:=WV wr (48+(u:Int) % 10);rw[Jd]at hc;have hg:(YV (u % 10)).size=1:=rfl;rcases hB with ⟨rfl,rfl,rfl⟩|⟨rfl,hi,hB⟩
   ·have HN:=hid (Xu u);have he:=W7 (YV (u % 10));go_wp2
    go_roundw
    case rel=>exact⟨u / 10,_,false,rfl,by simp,rfl,by omega,.inr ⟨rfl,by omega,HN.out⟩,HS.out.alloc _⟩
    case measure=>simp[Je,intOf];omega
   ·have hz:=Vx hB (by omega);have HB:=hid hB;clear hB;by_cases h0:0<u
    ·have HN:=hid (XK HB.out (by omega));go_wp2
     go_roundw
     case rel=>exact⟨u / 10,_,false,rfl,by simp,rfl,by omega,.inr ⟨rfl,by omega,HN.out⟩,HS.out.alloc _⟩
     case measure=>simp[Je,intOf];omega
    ·obtain rfl:0=u:=by omega
     obtain rfl:out=Y0 U:=by have:=HB.out;unfold Behind at this;rwa [if_pos rfl]at this
     have hb:=hf.out;rw[if_neg (by omega)]at hb;clear hc hd;go_wp2
     try rw[hb]
     go_ret
     exact⟨rfl,HS.out⟩
theorem KX (v:Value) (l:List Int) (w:World) (hl:Zm w v l) (hr:∀ x∈l,Wm x) (hn:(l.flatMap d3).length≤1000000000000):Calls Tryz.prog 82 #[v] w (Xl ⟨(Wx l).toArray⟩ w):=by
 obtain⟨a,c,rfl⟩:=Zp hl;have hg:=ZN.len hl;unfold maxLen at hg;have HL:=hid hl;have HR:=hid hr;have HN:=hid hn;clear hl hr hn;go_enter Tryz.func82,Tryz.ntmps82
 go_wp2_with fail
 go_loopw [3,4] (fun so io wr=>∃ (k:Nat) (out:ByteArray),out=⟨(91::(l.take k).flatMap d3).toArray⟩∧so=.string out∧io=.int .i64 k∧k≤l.length∧Since w wr) (fun _ io _=>l.length-(intOf io).toNat)
 case atStart=>exact⟨0,_,rfl,rfl,rfl,Nat.zero_le _,.refl _⟩
 case round =>
  obtain⟨k,out,ho,rfl,rfl,hk,hs⟩:=hrel;have HO:=hid ho;have HS:=hid hs;have hj:out.size≤1000000000001:=by
   rw[ho,Zu,List.length_cons];have h1:=Z3 d3 l k;have:=HN.out;omega
  by_cases hf:k<l.length
  ·obtain⟨b,off,x,rfl,hb,hx,hc⟩:=V9 HL.out hf;have hm:=(hs.cell (p:=⟨b,off+k,none⟩) hb).trans hc;have hp:b<wr.heap.size:=Nat.lt_of_lt_of_le hb hs.size;obtain⟨z,hz⟩:∃ z:ByteArray,⟨(d3 x).toArray⟩=z:=⟨_,rfl⟩
   have ha:=HR.out x (List.mem_of_getElem? hx);have hd:=YG x wr ha;rw[hz]at hd;have HD:=hid hd;have hi:z.size≤22:=by rw[←hz,Zu];exact Xt x ha
   have HX:=zH (out++z=⟨(91::(l.take (k+1)).flatMap d3).toArray⟩) (by rw[ho,←hz,ZbZ,ZI d3 hx];rfl);clear hd hs ho hz hx hc hb ha;go_wp2_with fail
   refine HD.out.mono ?_;rintro e w2 ⟨rfl,he⟩;have hh:=hid (HS.out.trans he);clear he;go_wp2
   go_roundw
   case rel=>exact⟨k+1,_,HX.out,rfl,by go_num,by omega,hh.out⟩
   case measure=>simp[intOf];omega
  ·obtain rfl:l.length=k:=by omega
   rw[List.take_length]at HO;have HF:=zH (out++⟨#[93]⟩=⟨(Wx l).toArray⟩) (by rw[HO.out];apply Zn;rw[Zg];unfold Wx;simp);clear ho hs;go_wp2
   try rw[HF.out]
   go_ret
   exact⟨rfl,HS.out⟩
end Go.Proofs.YtmhojfpidedjeaaGreatDoor
