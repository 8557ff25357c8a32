import Derived.Test.YtmhojfpidedjeaaGreatDoorTp02
import Derived.Lib.ItoaLen
namespace Go.Proofs.YtmhojfpidedjeaaGreatDoor
open Go.RowKit Go.Lib
set_option linter.unusedVariables false
set_option maxHeartbeats 4000000
set_option maxRecDepth 100000
theorem Zd4 (op:Int) (w:World) (ho : -9223372036854775808≤op∧op≤9223372036854775807) :
  Calls Tryz.prog 49 #[.int .i64 op] w (Xl (Xo op) w):=by
 have hf:=Qs w;obtain⟨y,hy⟩:∃ y,Xo op=y:=⟨_,rfl⟩
 have HF:=hid hf;have HY:=hid hy;rw[hy];clear hf hy;by_cases h1:op<1
 ·obtain rfl:ByteArray.empty=y:=by rw[←HY.out];unfold Xo;rw[if_pos (.inl h1)]
  go_enter Tryz.func49,Tryz.ntmps49
  go_wp2_with fail
  refine HF.out.mono ?_;rintro e w1 ⟨rfl,hn,hb⟩;have HB:=hid hb;clear hn hb;go_wp2
  go_ret
  exact⟨rfl,HB.out⟩
 ·by_cases h2:18<op
  ·obtain rfl:ByteArray.empty=y:=by rw[←HY.out];unfold Xo;rw[if_pos (.inr h2)]
   go_enter Tryz.func49,Tryz.ntmps49
   go_wp2_with fail
   refine HF.out.mono ?_;rintro e w1 ⟨rfl,hn,hb⟩;have HB:=hid hb;clear hn hb;go_wp2
   go_ret
   exact⟨rfl,HB.out⟩
  ·obtain⟨k,rfl⟩:∃ k:Nat,op=(k:Int)+1:=⟨(op-1).toNat,by omega⟩
   have hk:k<18:=by omega
   have he:Xo ((k:Int)+1)=ZQ.getD k ByteArray.empty:=by unfold Xo;rw[if_neg (by omega),show ((k:Int)+1-1).toNat=k from by omega]
   rw[he]at HY;clear he;go_enter Tryz.func49,Tryz.ntmps49
   go_wp2_with fail
   refine HF.out.mono ?_;rintro e w1 ⟨rfl,hn,hb⟩;have hc:w1.cell? ⟨w.heap.size,0+k,none⟩=some (.string y):=by rw[←HY.out];exact hn.2 k hk
   rw[Nat.zero_add]at hc;have hl:=hn.1;have HB:=hid hb;clear hn hb;go_wp2
   go_ret
   exact⟨rfl,HB.out⟩
def ZdI (x:Int) (w:World) (e:Ending) (w':World):Prop:=e=.returned (.int .i64 x)∧Below w.heap.size w w'
theorem QC (s:ByteArray) : -1≤Lib.idxOfS ZQ s∧Lib.idxOfS ZQ s<18:=by
 by_cases h:∃ k,k<ZQ.length∧ZQ.getD k ByteArray.empty=s∧∀ j,j<k→ZQ.getD j ByteArray.empty≠s
 ·obtain⟨k,h1,h2,h3⟩:=h;have hk:k<18:=h1;have:=Lib.idxFromS_hit s ZQ k 0 h1 h2 h3;unfold Lib.idxOfS;rw[this];omega
 ·have ha:∀ j,j<ZQ.length→ZQ.getD j ByteArray.empty≠s:=by
   intro j;induction j using Nat.strongRecOn with
   | ind j ih=>intro hj e;exact h ⟨j,hj,e,fun i hi=>ih i hi (by omega)⟩
  have:=Lib.idxFromS_miss s ZQ 0 ha;unfold Lib.idxOfS;rw[this];omega
theorem Zdj (s : ByteArray) (w : World) (ha : Lib.TabIs Tryz.prog w "strings.asciiSpace" .u8 Lib.asciiSpaceTab) :
  Calls Tryz.prog 75 #[.string s] w (ZdI (Yp s) w):=by
 have HF:=hid (QH w ha);have hb:=QC s;obtain⟨y,hy⟩:∃ y,Lib.idxOfS ZQ s=y:=⟨_,rfl⟩
 unfold Yp;rw[hy]at hb ⊢;have HY:=hid hy;clear hy ha;go_enter Tryz.func75,Tryz.ntmps75
 go_wp2_with fail
 refine HF.out.mono ?_;rintro e w1 ⟨rfl,hn,hc⟩;have HI:=hid (Tryz.slices_Index_string w.heap.size 0 18 18 ZQ s w1 (by decide) (by decide) (fun j hj=>hn.2 j hj));rw[show ZQ.take 18=ZQ from rfl,HY.out]at HI;have HB:=hid hc;clear hn hc;go_wp2_with fail
 refine HI.out.mono ?_;rintro e w2 ⟨rfl,rfl⟩;go_wp2
 go_ret
 exact⟨rfl,HB.out⟩
theorem Zcn (s:ByteArray) (w:World):Calls Tryz.prog 87 #[.string s] w (ZdI (Yp s) w):=by
 have HF:=hid (Qs w);obtain⟨y,hy⟩:∃ y,Yp s=y:=⟨_,rfl⟩
 rw[hy];have HY:=hid hy;clear hy;go_enter Tryz.func87,Tryz.ntmps87
 go_wp2_with fail
 refine HF.out.mono ?_;rintro e w1 ⟨rfl,hn,hf⟩;have HN:=hid hn;have HB:=hid hf;have hl:=hn.1;clear hn hf;go_wp2_with fail
 go_loop [4] (fun i=>∃ k:Nat,k≤18∧i=.int .i64 k∧∀ j,j<k→ZQ.getD j ByteArray.empty≠s) (fun i=>18-(intOf i).toNat)
 case atStart=>exact⟨0,Nat.zero_le _,rfl,fun j hj=>by omega⟩
 case round =>
  obtain⟨k,hk,rfl,hb⟩:=hrel;have ha:=hid hb;clear hb;by_cases hd:k<18
  ·have hc:=HN.out.2 k hd;rw[Nat.zero_add]at hc;obtain⟨z,hz⟩:∃ z,ZQ.getD k ByteArray.empty=z:=⟨_,rfl⟩
   rw[hz]at hc;have HZ:=hid hz;clear hz;by_cases he:z=s
   ·have hq:(z.toList==s.toList)=true:=(Lib.bytes_beq_iff z s).2 he;have HI:=hid (show Yp s=(k:Int)+1 from by
     unfold Yp Lib.idxOfS;rw[Lib.idxFromS_hit s ZQ k 0 hd (HZ.out.trans he) ha.out];omega)
    obtain rfl:(k:Int)+1=y:=HI.out.symm.trans HY.out;clear he;go_wp2
    go_ret
    exact⟨rfl,HB.out⟩
   ·have hq:(z.toList==s.toList)=false:=(Lib.bytes_beq_false_iff z s).2 he;have HX:=hid he;clear he;go_wp2
    go_round
    case rel=>exact⟨k+1,by omega,by go_num,fun j hj=>by
     by_cases h:j<k
     ·exact ha.out j h
     ·obtain rfl:j=k:=by omega
      rw[HZ.out];exact HX.out⟩
    case measure=>simp[intOf];omega
  ·obtain rfl:18=k:=by omega
   have HI:=hid (show Yp s=0 from by
    unfold Yp Lib.idxOfS;rw[Lib.idxFromS_miss s ZQ 0 ha.out];rfl)
   obtain rfl:(0:Int)=y:=HI.out.symm.trans HY.out;go_wp2
   go_ret
   exact⟨rfl,HB.out⟩
def YV (d:Nat):ByteArray:=⟨#[UInt8.ofNat (48+d)]⟩
theorem JF (d:Nat) (h:d<10):(⟨#[48,49,50,51,52,53,54,55,56,57]⟩:ByteArray).extract d (d+1)=YV d:=by
 have h2:∀ d,d<10→(⟨#[48,49,50,51,52,53,54,55,56,57]⟩:ByteArray).extract d (d+1)=YV d:=by decide +kernel
 exact h2 d h
def Y0 (u:Nat):ByteArray:=⟨(Lib.decDigits u).toArray⟩
theorem Zn {a b:ByteArray} (h:a.data.toList=b.data.toList):a=b:=ByteArray.ext (Array.toList_inj.mp h)
theorem Zg (a b:ByteArray):(a++b).data.toList=a.data.toList++b.data.toList:=by
 rw[ByteArray.data_append,Array.toList_append]
def Behind (U u:Nat) (out:ByteArray):Prop:=if u=0 then out=Y0 U else Lib.decDigits u++out.data.toList=Lib.decDigits U
theorem Xu (U:Nat):Behind U (U / 10) (YV (U % 10)):=by
 unfold Behind;by_cases h:U<10
 ·rw[if_pos (by omega)];unfold Y0 YV;rw[Z6 h,Nat.mod_eq_of_lt h]
 ·rw[if_neg (by omega),YJ h];rfl
theorem XK {U u:Nat} {out:ByteArray} (h:Behind U u out) (hu:u≠0):Behind U (u / 10) (YV (u % 10)++out):=by
 unfold Behind at h ⊢;rw[if_neg hu]at h;by_cases h1:u<10
 ·rw[if_pos (by omega)];apply Zn
  rw[Zg];rw[Z6 h1]at h;unfold Y0 YV;rw[Nat.mod_eq_of_lt h1];exact h
 ·rw[if_neg (by omega),Zg];rw[YJ h1]at h;rw[←List.append_assoc];exact h
theorem KO {U u:Nat} {out:ByteArray} (h:Behind U u out) (hU:U≤9223372036854775807):out.size≤21:=by
 have h1:=Lib.itoa_length_le (U:Int) (by omega) (by omega);rw[XB (by omega)]at h1;have h1:(Lib.decDigits U).length≤21:=h1;have h2:out.data.toList.length=out.size:=Array.length_toList;unfold Behind at h;split at h
 ·rw[h]at h2;have h3:(Y0 U).data.toList.length=(Lib.decDigits U).length:=rfl;rw[h];omega
 ·rw[←h,List.length_append]at h1;omega
theorem Vd (n:Int) (w:World) (h0 : -2147483648≤n) (h1:n≤2147483647) :
  Calls Tryz.prog 95 #[.int .i32 n] w fun e w'=>e=.returned (.string ⟨(Lib.itoa n).toArray⟩)∧w=w':=by
 obtain⟨U,hU⟩:∃ U:Nat,n.natAbs=U:=⟨_,rfl⟩
 have hb:U≤2147483648:=by omega
 by_cases hn:n<0
 ·obtain rfl:n=-(U:Int):=by omega
  have HT:=hid (show (⟨#[45]⟩:ByteArray)++Y0 U=⟨(Lib.itoa (-(U:Int))).toArray⟩ from by
   apply Zn
   rw[Zg];unfold Y0;rw[XX hn,hU];rfl)
  clear hU;go_enter Tryz.func95,Tryz.ntmps95
  go_wp2_with fail
  go_loop [3,6] (fun x o=>∃ (u:Nat) (out:ByteArray),u≤2147483648∧x=.int .i64 u∧o=.string out∧Behind U u out) (fun x _=>(intOf x).toNat)
  case atStart=>exact⟨U / 10,_,by omega,by simp,rfl,by rw[JF _ (by omega)];exact Xu U⟩
  case round =>
   obtain⟨u,out,hu,rfl,rfl,hB⟩:=hrel;have hz:=KO hB (by omega);have HB:=hid hB;clear hB;by_cases ha:0<u
   ·have hn:=XK HB.out (by omega);rw[←JF _ (by omega)]at hn;have HN:=hid hn;clear hn;go_wp2
    go_round
    case rel=>exact⟨u / 10,_,by omega,by simp,rfl,HN.out⟩
    case measure=>simp[intOf];omega
   ·obtain rfl:0=u:=by omega
    obtain rfl:out=Y0 U:=by have:=HB.out;unfold Behind at this;rwa [if_pos rfl]at this
    go_wp2
    try rw[HT.out]
    go_ret
    exact⟨rfl,rfl⟩
 ·obtain rfl:n=(U:Int):=by omega
  have HT:=hid (show (⟨#[]⟩:ByteArray)++Y0 U=⟨(Lib.itoa (U:Int)).toArray⟩ from by
   apply Zn
   rw[Zg];unfold Y0;rw[XB hn];rfl)
  clear hU;go_enter Tryz.func95,Tryz.ntmps95
  go_wp2_with fail
  go_loop [3,6] (fun x o=>∃ (u:Nat) (out:ByteArray),u≤2147483648∧x=.int .i64 u∧o=.string out∧Behind U u out) (fun x _=>(intOf x).toNat)
  case atStart=>exact⟨U / 10,_,by omega,by simp,rfl,by rw[JF _ (by omega)];exact Xu U⟩
  case round =>
   obtain⟨u,out,hu,rfl,rfl,hB⟩:=hrel;have hz:=KO hB (by omega);have HB:=hid hB;clear hB;by_cases ha:0<u
   ·have hn:=XK HB.out (by omega);rw[←JF _ (by omega)]at hn;have HN:=hid hn;clear hn;go_wp2
    go_round
    case rel=>exact⟨u / 10,_,by omega,by simp,rfl,HN.out⟩
    case measure=>simp[intOf];omega
   ·obtain rfl:0=u:=by omega
    obtain rfl:out=Y0 U:=by have:=HB.out;unfold Behind at this;rwa [if_pos rfl]at this
    go_wp2
    try rw[HT.out]
    go_ret
    exact⟨rfl,rfl⟩
def YY (c:UInt8):Bool:=decide (48≤c.toNat)&&decide (c.toNat≤57)
def Vj (l:List UInt8):Nat:=l.foldl (fun a c=>10*a+(c.toNat-48)) 0
theorem Zav (l:List UInt8) (c:UInt8):Vj (l++[c])=10*Vj l+(c.toNat-48):=by unfold Vj;rw[List.foldl_append];rfl
theorem ZcQ:∀ (l:List UInt8) (a n:Nat),a<10 ^ n→l.all YY=true→l.foldl (fun a c=>10*a+(c.toNat-48)) a<10 ^ (n+l.length)
 | [],a,n,h,_=>by simpa using h
 | c::r,a,n,h,hd=>by
  rw[List.all_cons,Bool.and_eq_true]at hd
  have h2:=hd.1
  unfold YY at h2
  simp only[Bool.and_eq_true,decide_eq_true_eq]at h2
  rw[List.foldl_cons,List.length_cons,show n+(r.length+1)=(n+1)+r.length from by omega]
  exact ZcQ r _ (n+1) (by rw[Nat.pow_succ];omega) hd.2
theorem ZfO (l:List UInt8) (h:l.all YY=true):Vj l<10 ^ l.length:=by
 have:=ZcQ l 0 0 (by simp) h;simpa [Vj]using this
theorem V5 (u:Nat):Vj (Lib.decDigits u)=u:=by
 induction u using Nat.strongRecOn with
 | ind u ih =>
  by_cases h:u<10
  ·rw[Z6 h];show 10*0+((UInt8.ofNat (48+u)).toNat-48)=u
   rw[Wq h];omega
  ·rw[YJ h,Zav,ih (u / 10) (by omega),Wq (by omega)];omega
theorem Zdy (u:Nat):(Lib.decDigits u).all YY=true:=by
 rw[List.all_eq_true];intro c hc;have:=Vl u c hc;unfold YY;simp;omega
theorem QK (u:Nat) (h:u≤2147483648):(Lib.decDigits u).length≤10:=by
 have h1:∀ (k u:Nat),u<10 ^ (k+1)→(Lib.decDigits u).length≤k+1:=by
  intro k;induction k with
  | zero=>intro u hu;rw[Z6 (by omega)];simp
  | succ k ih =>
   intro u hu;by_cases h:u<10
   ·rw[Z6 h];simp
   ·rw[YJ h,List.length_append,List.length_singleton];have:=ih (u / 10) (by rw[Nat.pow_succ]at hu;omega);omega
 exact h1 9 u (by omega)
theorem Kw {l d:List UInt8} {neg:Bool} (hf:l=if neg then 45::d else d) (ha:neg=false→d.head?≠some 45) {v : Int} (h:Z0 l=some v) :
  d=Lib.decDigits v.natAbs∧v=(if neg then -(v.natAbs:Int) else v.natAbs)∧v.natAbs≤2147483648:=by
 have e:=Kv h;have b:=JR h;unfold In32W at b
 cases neg with
 | true =>
  simp only[if_true]at hf;by_cases hv:v<0
  ·rw[XX hv,hf]at e;injection e with _ e
   exact⟨e.symm,by simp;omega,by omega⟩
  ·rw[XB hv,hf]at e;have:=Vl v.toNat 45 (by rw[e];exact List.mem_cons_self);exact absurd this (by decide)
 | false =>
  simp only[Bool.false_eq_true,if_false]at hf;by_cases hv:v<0
  ·rw[XX hv,hf]at e;exact absurd (by rw[←e];rfl) (ha rfl)
  ·rw[XB hv,hf]at e;have e2:v.toNat=v.natAbs:=by omega
   rw[e2]at e;exact⟨e.symm,by simp;omega,by omega⟩
theorem K7 {l d:List UInt8} {neg:Bool} (hf:l=if neg then 45::d else d) (ha:neg=false→d.head?≠some 45) {k : Nat} {c : UInt8} (hk:d[k]? = some c) (hc:YY c=false):Z0 l=none:=by
 cases h:Z0 l with
 | none=>rfl
 | some v =>
  obtain⟨e,_⟩:=Kw hf ha h;have:=Zdy v.natAbs;rw[←e,List.all_eq_true]at this;have:=this c (List.mem_of_getElem? hk);rw[hc]at this;cases this
def ZfK (neg:Bool) (l d:List UInt8):Prop:=(l=if neg then 45::d else d)∧(neg=false→d.head?≠some 45)
def Vc (neg:Bool) (x:Nat):Int:=if neg then -(x:Int) else x
theorem Xa {l d:List UInt8} {neg:Bool} (hf:l=if neg then 45::d else d) (ha:neg=false→d.head?≠some 45) {k : Nat} (hk:d.length≤k∨k=11) (hx:¬ (In32W (Vc neg (Vj (d.take k)))∧Lib.itoa (Vc neg (Vj (d.take k)))=l)):Z0 l=none:=by
 cases h:Z0 l with
 | none=>rfl
 | some v =>
  exfalso
  obtain⟨e,e2,e3⟩:=Kw hf ha h;have hl:=QK v.natAbs e3;rw[←e]at hl;have ht:d.take k=d:=List.take_of_length_le (by omega);rw[ht]at hx;have hv:Vc neg (Vj d)=v:=by
   unfold Vc;rw[e,V5];exact e2.symm
  rw[hv]at hx;exact hx ⟨JR h,Kv h⟩
theorem VU {l : List UInt8} {x : Int} (h1:In32W x) (h2:Lib.itoa x=l):Z0 l=some x:=by rw[←h2];exact Zcb h1
theorem ZaA (D:ByteArray) {k : Nat} (h:k<D.size):D.data.toList.take (k+1)=D.data.toList.take k++[D[k]]:=by
 rw[List.take_succ_eq_append_getElem (by simpa using h)];rfl
def JJ (D:ByteArray) (k:Nat) (x:Int):Prop:=k≤D.size∧k≤11∧x=(Vj (D.data.toList.take k):Nat)∧(D.data.toList.take k).all YY=true
theorem JJ.bound {D : ByteArray} {k : Nat} {x : Int} (h:JJ D k x):0≤x∧x<100000000000:=by
 obtain⟨h1,h2,rfl,h4⟩:=h;have h5:=ZfO _ h4;have h6:(D.data.toList.take k).length≤k:=List.length_take_le _ _;have h7:10 ^ (D.data.toList.take k).length≤10 ^ 11:=Nat.pow_le_pow_right (by decide) (by omega);omega
theorem JJ.next {D : ByteArray} {k : Nat} {x : Int} (h:JJ D k x) (hk:k<D.size) (ha:k<11) (hc:YY D[k]=true):JJ D (k+1) (10*x+((D[k].toNat:Int)-48)):=by
 obtain⟨h1,h2,rfl,h4⟩:=h;have h5:48≤D[k].toNat:=by unfold YY at hc;simp at hc;omega
 refine⟨by omega,by omega,?_,?_⟩
 ·rw[ZaA D hk,Zav];omega
 ·rw[ZaA D hk,List.all_append,h4];simpa using hc
theorem Zdd (s D:ByteArray) (w:World) (hs:s.size≤1000000) (h0:0<s.size) (hm:(s[0].toNat:Int)=45) (hD:s.extract 1 s.size=D) :
  Calls Tryz.prog 56 #[.string s] w (Wb s.data.toList w):=by
 have hk:D.size+1=s.size:=by rw[←hD,ByteArray.size_extract];omega
 have hC:D.size<s.size:=by omega
 have hq:((s[0].toNat:Int)==45)=true:=by simpa using hm
 have hf:s.data.toList=(if true then 45::D.data.toList else D.data.toList):=by
  rw[if_pos rfl,←hD];have h1:s.data.toList.length=s.size:=Array.length_toList;have h2:(s.extract 1 s.size).data.toList=s.data.toList.drop 1:=by
   rw[ByteArray.data_extract,Array.toList_extract,List.extract_eq_take_drop,List.take_of_length_le];rw[List.length_drop,h1];exact Nat.le_refl _
  rw[h2];have h3:s.data.toList[0]? = some s[0]:=by rw[List.getElem?_eq_getElem (by omega)];rfl
  have h4:s[0]=45:=by apply UInt8.toNat_inj.1;show s[0].toNat=45;omega
  cases hl:s.data.toList with
  | nil=>rw[hl]at h1;simp at h1;omega
  | cons c r=>rw[hl]at h3;simp at h3;rw[h3,h4];rfl
 have HF:=zH (ZfK true s.data.toList D.data.toList) (And.intro hf (show true=false→D.data.toList.head?≠some 45 from fun e=>by cases e));have HD:=hid hD;have HS:=hid hk;clear hD hk hm hf;go_enter Tryz.func56,Tryz.ntmps56
 go_wp2_with fail
 rw[HD.out]
 go_loop [5,6] (fun x i=>∃ (k:Nat) (z:Int),x=.int .i64 z∧i=.int .i64 k∧JJ D k z) (fun _ i=>11-(intOf i).toNat)
 case atStart=>exact⟨0,0,rfl,rfl,Nat.zero_le _,Nat.zero_le _,rfl,rfl⟩
 case round =>
  obtain⟨k,x,rfl,rfl,hP⟩:=hrel;obtain⟨hB,hA⟩:=hP.bound;have ho:=hP.1;have hv:=hP.2.1;have hz:=hid hP;have HX:=zH (Vc true (Vj (D.data.toList.take k))=-x) (by unfold Vc;rw[hP.2.2.1];rfl);have ht:=zH (D.data.toList.length=D.size) Array.length_toList;clear hP;by_cases hh:k<D.size
  ·by_cases hp:k<11
   ·by_cases hc:YY D[k]=true
    ·have hn:=hz.out.next hh hp hc;have hG:48≤(D[k].toNat:Int):=by unfold YY at hc;simp at hc;omega
     have hF:(D[k].toNat:Int)≤57:=by unfold YY at hc;simp at hc;omega
     have HN:=hid hn;clear hn hc;go_wp2
     go_round
     case rel=>exact⟨k+1,_,rfl,by go_num,HN.out⟩
     case measure=>simp[intOf];omega
    ·have hi:YY D[k]=false:=by simpa using hc
     have HP:=hid (Yo (l:=s.data.toList) (K7 HF.out.1 HF.out.2 (k:=k) (c:=D[k]) (by rw[List.getElem?_eq_getElem (by rw[ht.out];exact hh)];rfl) hi) w w (Below.refl _ _));have hd:(D[k].toNat:Int)<48∨57<(D[k].toNat:Int):=by
      unfold YY at hi;rw[Bool.and_eq_false_iff,decide_eq_false_iff_not,decide_eq_false_iff_not]at hi;omega
     clear hc hi;rcases hd with hd|hd
     ·go_wp2
      go_ret2
      exact HP.out
     ·have hE:48≤(D[k].toNat:Int):=by omega
      go_wp2
      go_ret2
      exact HP.out
   ·obtain rfl:11=k:=by omega
    have HK:=zH (D.data.toList.length≤11∨11=11) (.inr rfl);clear hp ho hv;by_cases hr : -2147483648≤-x∧-x≤2147483647
    ·obtain⟨hb,ha⟩:=hr;obtain⟨y,hy⟩:∃ y:ByteArray,(⟨(Lib.itoa (-x)).toArray⟩:ByteArray)=y:=⟨_,rfl⟩
     have HT:=hid (Vd (-x) w hb ha);rw[hy]at HT;have hg:=hid hy;clear hy;by_cases he:y=s
     ·have hj:(y.toList==s.toList)=true:=(Lib.bytes_beq_iff y s).2 he;have HP:=hid (Wy (VU (l:=s.data.toList) (x:=-x) ⟨hb,ha⟩ (by rw[←he,←hg.out])) w w (Below.refl _ _));clear he;go_wp2_with fail
      refine HT.out.mono ?_;rintro e w2 ⟨rfl,rfl⟩;go_wp2
      go_ret2
      exact HP.out
     ·have hj:(y.toList==s.toList)=false:=(Lib.bytes_beq_false_iff y s).2 he;have HP:=hid (Yo (l:=s.data.toList) (Xa HF.out.1 HF.out.2 HK.out (fun h=>he (Zn (by rw[←hg.out];exact HX.out ▸ h.2)))) w w (Below.refl _ _))
      clear he;go_wp2_with fail
      refine HT.out.mono ?_;rintro e w2 ⟨rfl,rfl⟩;go_wp2
      go_ret2
      exact HP.out
    ·have HP:=hid (Yo (l:=s.data.toList) (Xa HF.out.1 HF.out.2 HK.out (fun h=>hr (HX.out ▸ h.1))) w w (Below.refl _ _))
     by_cases hu : -x < -2147483648
     ·clear hr;go_wp2
      all_goals (go_ret2;exact HP.out)
     ·have hx:2147483648≤-x:=by omega
      clear hr;go_wp2
      all_goals (go_ret2;exact HP.out)
  ·obtain rfl:D.size=k:=by omega
   have HK:=zH (D.data.toList.length≤D.size∨D.size=11) (.inl (by rw[ht.out];exact Nat.le_refl _));clear hh ho;by_cases hr : -2147483648≤-x∧-x≤2147483647
   ·obtain⟨hb,ha⟩:=hr;obtain⟨y,hy⟩:∃ y:ByteArray,(⟨(Lib.itoa (-x)).toArray⟩:ByteArray)=y:=⟨_,rfl⟩
    have HT:=hid (Vd (-x) w hb ha);rw[hy]at HT;have hg:=hid hy;clear hy;by_cases he:y=s
    ·have hj:(y.toList==s.toList)=true:=(Lib.bytes_beq_iff y s).2 he;have HP:=hid (Wy (VU (l:=s.data.toList) (x:=-x) ⟨hb,ha⟩ (by rw[←he,←hg.out])) w w (Below.refl _ _));clear he;go_wp2_with fail
     refine HT.out.mono ?_;rintro e w2 ⟨rfl,rfl⟩;go_wp2
     go_ret2
     exact HP.out
    ·have hj:(y.toList==s.toList)=false:=(Lib.bytes_beq_false_iff y s).2 he;have HP:=hid (Yo (l:=s.data.toList) (Xa HF.out.1 HF.out.2 HK.out (fun h=>he (Zn (by rw[←hg.out];exact HX.out ▸ h.2)))) w w (Below.refl _ _))
     clear he;go_wp2_with fail
     refine HT.out.mono ?_;rintro e w2 ⟨rfl,rfl⟩;go_wp2
     go_ret2
     exact HP.out
   ·have HP:=hid (Yo (l:=s.data.toList) (Xa HF.out.1 HF.out.2 HK.out (fun h=>hr (HX.out ▸ h.1))) w w (Below.refl _ _))
    by_cases hu : -x < -2147483648
    ·clear hr;go_wp2
     all_goals (go_ret2;exact HP.out)
    ·have hx:2147483648≤-x:=by omega
     clear hr;go_wp2
     all_goals (go_ret2;exact HP.out)
theorem Zdc (s:ByteArray) (w:World) (hs:s.size≤1000000) (h0:0<s.size) (hm:(s[0].toNat:Int)≠45) :
  Calls Tryz.prog 56 #[.string s] w (Wb s.data.toList w):=by
 have hq:((s[0].toNat:Int)==45)=false:=by simpa using hm
 have hj:s.data.toList.head?≠some 45:=by
  intro e;have h1:s.data.toList.length=s.size:=Array.length_toList;have h3:s.data.toList[0]? = some s[0]:=by rw[List.getElem?_eq_getElem (by omega)];rfl
  rw[←List.head?_eq_getElem?,e]at h3;injection h3 with h3
  apply hm;rw[←h3];rfl
 have HF:=zH (ZfK false s.data.toList s.data.toList) (And.intro rfl (fun (_:false=false)=>hj))
 clear hm hj;go_enter Tryz.func56,Tryz.ntmps56
 go_wp2_with fail
 skip
 go_loop [5,6] (fun x i=>∃ (k:Nat) (z:Int),x=.int .i64 z∧i=.int .i64 k∧JJ s k z) (fun _ i=>11-(intOf i).toNat)
 case atStart=>exact⟨0,0,rfl,rfl,Nat.zero_le _,Nat.zero_le _,rfl,rfl⟩
 case round =>
  obtain⟨k,x,rfl,rfl,hP⟩:=hrel;obtain⟨hz,hx⟩:=hP.bound;have hk:=hP.1;have ht:=hP.2.1;have hv:=hid hP;have HX:=zH (Vc false (Vj (s.data.toList.take k))=x) (by unfold Vc;rw[hP.2.2.1];rfl);have ho:=zH (s.data.toList.length=s.size) Array.length_toList;clear hP;by_cases hg:k<s.size
  ·by_cases hl:k<11
   ·by_cases hc:YY s[k]=true
    ·have hn:=hv.out.next hg hl hc;have hC:48≤(s[k].toNat:Int):=by unfold YY at hc;simp at hc;omega
     have hB:(s[k].toNat:Int)≤57:=by unfold YY at hc;simp at hc;omega
     have HN:=hid hn;clear hn hc;go_wp2
     go_round
     case rel=>exact⟨k+1,_,rfl,by go_num,HN.out⟩
     case measure=>simp[intOf];omega
    ·have hh:YY s[k]=false:=by simpa using hc
     have HP:=hid (Yo (l:=s.data.toList) (K7 HF.out.1 HF.out.2 (k:=k) (c:=s[k]) (by rw[List.getElem?_eq_getElem (by rw[ho.out];exact hg)];rfl) hh) w w (Below.refl _ _));have hd:(s[k].toNat:Int)<48∨57<(s[k].toNat:Int):=by
      unfold YY at hh;rw[Bool.and_eq_false_iff,decide_eq_false_iff_not,decide_eq_false_iff_not]at hh;omega
     clear hc hh;rcases hd with hd|hd
     ·go_wp2
      go_ret2
      exact HP.out
     ·have hA:48≤(s[k].toNat:Int):=by omega
      go_wp2
      go_ret2
      exact HP.out
   ·obtain rfl:11=k:=by omega
    have HK:=zH (s.data.toList.length≤11∨11=11) (.inr rfl);clear hl hk ht;by_cases hr : -2147483648≤x∧x≤2147483647
    ·obtain⟨hb,ha⟩:=hr;obtain⟨y,hy⟩:∃ y:ByteArray,(⟨(Lib.itoa (x)).toArray⟩:ByteArray)=y:=⟨_,rfl⟩
     have HT:=hid (Vd (x) w hb ha);rw[hy]at HT;have hf:=hid hy;clear hy;by_cases he:y=s
     ·have hi:(y.toList==s.toList)=true:=(Lib.bytes_beq_iff y s).2 he;have HP:=hid (Wy (VU (l:=s.data.toList) (x:=x) ⟨hb,ha⟩ (by rw[←he,←hf.out])) w w (Below.refl _ _));clear he;go_wp2_with fail
      refine HT.out.mono ?_;rintro e w2 ⟨rfl,rfl⟩;go_wp2
      go_ret2
      exact HP.out
     ·have hi:(y.toList==s.toList)=false:=(Lib.bytes_beq_false_iff y s).2 he;have HP:=hid (Yo (l:=s.data.toList) (Xa HF.out.1 HF.out.2 HK.out (fun h=>he (Zn (by rw[←hf.out];exact HX.out ▸ h.2)))) w w (Below.refl _ _))
      clear he;go_wp2_with fail
      refine HT.out.mono ?_;rintro e w2 ⟨rfl,rfl⟩;go_wp2
      go_ret2
      exact HP.out
    ·have HP:=hid (Yo (l:=s.data.toList) (Xa HF.out.1 HF.out.2 HK.out (fun h=>hr (HX.out ▸ h.1))) w w (Below.refl _ _))
     by_cases hp:x < -2147483648
     ·clear hr;go_wp2
      all_goals (go_ret2;exact HP.out)
     ·have hu:2147483648≤x:=by omega
      clear hr;go_wp2
      all_goals (go_ret2;exact HP.out)
  ·obtain rfl:s.size=k:=by omega
   have HK:=zH (s.data.toList.length≤s.size∨s.size=11) (.inl (by rw[ho.out];exact Nat.le_refl _));clear hg hk;by_cases hr : -2147483648≤x∧x≤2147483647
   ·obtain⟨hb,ha⟩:=hr;obtain⟨y,hy⟩:∃ y:ByteArray,(⟨(Lib.itoa (x)).toArray⟩:ByteArray)=y:=⟨_,rfl⟩
    have HT:=hid (Vd (x) w hb ha);rw[hy]at HT;have hf:=hid hy;clear hy;by_cases he:y=s
    ·have hi:(y.toList==s.toList)=true:=(Lib.bytes_beq_iff y s).2 he;have HP:=hid (Wy (VU (l:=s.data.toList) (x:=x) ⟨hb,ha⟩ (by rw[←he,←hf.out])) w w (Below.refl _ _));clear he;go_wp2_with fail
     refine HT.out.mono ?_;rintro e w2 ⟨rfl,rfl⟩;go_wp2
     go_ret2
     exact HP.out
    ·have hi:(y.toList==s.toList)=false:=(Lib.bytes_beq_false_iff y s).2 he;have HP:=hid (Yo (l:=s.data.toList) (Xa HF.out.1 HF.out.2 HK.out (fun h=>he (Zn (by rw[←hf.out];exact HX.out ▸ h.2)))) w w (Below.refl _ _))
     clear he;go_wp2_with fail
     refine HT.out.mono ?_;rintro e w2 ⟨rfl,rfl⟩;go_wp2
     go_ret2
     exact HP.out
   ·have HP:=hid (Yo (l:=s.data.toList) (Xa HF.out.1 HF.out.2 HK.out (fun h=>hr (HX.out ▸ h.1))) w w (Below.refl _ _))
    by_cases hp:x < -2147483648
    ·clear hr;go_wp2
     all_goals (go_ret2;exact HP.out)
    ·have hu:2147483648≤x:=by omega
     clear hr;go_wp2
     all_goals (go_ret2;exact HP.out)
theorem Zbr (s:ByteArray) (w:World) (h0:s.size=0) :
  Calls Tryz.prog 56 #[.string s] w (Wb s.data.toList w):=by
 obtain rfl:s=⟨#[]⟩:=by
  apply ByteArray.ext
  exact Array.eq_empty_of_size_eq_zero h0
 have HP:=hid (Yo (l:=(⟨#[]⟩:ByteArray).data.toList) rfl w w (Below.refl _ _));obtain⟨y,hy⟩:∃ y:ByteArray,(⟨(Lib.itoa 0).toArray⟩:ByteArray)=y:=⟨_,rfl⟩
 have HT:=hid (Vd 0 w (by decide) (by decide));rw[hy]at HT;have hl:y.toList=[48]:=by rw[←hy];decide +kernel
 have hc:y.toList.isEmpty=false:=by rw[hl];rfl
 have hb:(y.toList==[])=false:=by rw[hl];rfl
 have ha:(y.toList==(⟨#[]⟩:ByteArray).toList)=false:=by rw[hl];decide +kernel
 clear h0 hy hl;go_enter Tryz.func56,Tryz.ntmps56
 go_wp2_with fail
 go_loop [5,6] (fun x i=>x=.int .i64 0∧i=.int .i64 0) (fun _ _=>0)
 case atStart=>exact⟨rfl,rfl⟩
 case round =>
  obtain⟨rfl,rfl⟩:=hrel;go_wp2_with fail
  refine HT.out.mono ?_;rintro e w2 ⟨rfl,rfl⟩;go_wp2
  all_goals (go_ret2;exact HP.out)
theorem Qr (s:ByteArray) (w:World) (hs:s.size≤1000000):Calls Tryz.prog 56 #[.string s] w (Wb s.data.toList w):=by
 by_cases h0:s.size=0
 ·exact Zbr s w h0
 ·by_cases hm:(s[0].toNat:Int)=45
  ·exact Zdd s _ w hs (by omega) hm rfl
  ·exact Zdc s w hs (by omega) hm
end Go.Proofs.YtmhojfpidedjeaaGreatDoor
