/- jacquardref01.Parse: which word a text is. The document's numbers: jacquardref25.d, all. The document's rows of numbers: jacquardref25.all. jacquardref03's digits and row. -/
import Derived.Test.YtmhojfpidedjeaaGreatDoorRz02
import Derived.Test.YtmhojfpidedjeaaGreatDoorRz07
import Derived.Laws.BytesString
namespace Go.Proofs.YtmhojfpidedjeaaGreatDoor
open Go.RowKit
set_option linter.unusedVariables false
def isDig (c:UInt8):Bool:=decide (48≤c.toNat)&&decide (c.toNat≤57)
def valD (l:List UInt8):Nat:=l.foldl (fun a c=>10*a+(c.toNat-48)) 0
theorem valD_snoc (l:List UInt8) (c:UInt8):valD (l++[c])=10*valD l+(c.toNat-48):=by unfold valD;rw[List.foldl_append];rfl
theorem fold_lt:∀ (l:List UInt8) (a n:Nat),a<10 ^ n→l.all isDig=true→l.foldl (fun a c=>10*a+(c.toNat-48)) a<10 ^ (n+l.length)
 | [],a,n,h,_=>by simpa using h
 | c::r,a,n,h,hd=>by
  rw[List.all_cons,Bool.and_eq_true]at hd
  have h2:=hd.1
  unfold isDig at h2
  simp only[Bool.and_eq_true,decide_eq_true_eq]at h2
  rw[List.foldl_cons,List.length_cons,show n+(r.length+1)=(n+1)+r.length from by omega]
  exact fold_lt r _ (n+1) (by rw[Nat.pow_succ];omega) hd.2
theorem valD_lt (l:List UInt8) (h:l.all isDig=true):valD l<10 ^ l.length:=by
 have:=fold_lt l 0 0 (by simp) h
 simpa [valD]using this
theorem valD_digits (u:Nat):valD (Lib.decDigits u)=u:=by
 induction u using Nat.strongRecOn with
 | ind u ih =>
  by_cases h:u<10
  ·rw[decDigits_small h]
   show 10*0+((UInt8.ofNat (48+u)).toNat-48)=u
   rw[digit_nat h];omega
  ·rw[decDigits_big h,valD_snoc,ih (u / 10) (by omega),digit_nat (by omega)]
   omega
theorem digits_all (u:Nat):(Lib.decDigits u).all isDig=true:=by
 rw[List.all_eq_true]
 intro c hc
 have:=decDigits_all u c hc
 unfold isDig
 simp;omega
theorem digits_len (u:Nat) (h:u≤2147483648):(Lib.decDigits u).length≤10:=by
 have h1:∀ (k u:Nat),u<10 ^ (k+1)→(Lib.decDigits u).length≤k+1:=by
  intro k
  induction k with
  | zero=>intro u hu;rw[decDigits_small (by omega)];simp
  | succ k ih =>
   intro u hu
   by_cases h:u<10
   ·rw[decDigits_small h];simp
   ·rw[decDigits_big h,List.length_append,List.length_singleton]
    have:=ih (u / 10) (by rw[Nat.pow_succ]at hu;omega)
    omega
 exact h1 9 u (by omega)
theorem wparse_form {l d:List UInt8} {neg:Bool} (hf:l=if neg then 45::d else d) (hne:neg=false→d.head?≠some 45) {v : Int} (h:wparse l=some v) :
  d=Lib.decDigits v.natAbs∧v=(if neg then -(v.natAbs:Int) else v.natAbs)∧v.natAbs≤2147483648:=by
 have e:=wparse_text h
 have b:=wparse_32 h
 unfold In32W at b
 cases neg with
 | true =>
  simp only[if_true]at hf
  by_cases hv:v<0
  ·rw[itoa_neg hv,hf]at e
   injection e with _ e
   exact⟨e.symm,by simp;omega,by omega⟩
  ·rw[itoa_pos hv,hf]at e
   have:=decDigits_all v.toNat 45 (by rw[e];exact List.mem_cons_self)
   exact absurd this (by decide)
 | false =>
  simp only[Bool.false_eq_true,if_false]at hf
  by_cases hv:v<0
  ·rw[itoa_neg hv,hf]at e
   exact absurd (by rw[←e];rfl) (hne rfl)
  ·rw[itoa_pos hv,hf]at e
   have e2:v.toNat=v.natAbs:=by omega
   rw[e2]at e
   exact⟨e.symm,by simp;omega,by omega⟩
theorem wparse_odd {l d:List UInt8} {neg:Bool} (hf:l=if neg then 45::d else d) (hne:neg=false→d.head?≠some 45) {k : Nat} {c : UInt8} (hk:d[k]? = some c) (hc:isDig c=false):wparse l=none:=by
 cases h:wparse l with
 | none=>rfl
 | some v =>
  obtain⟨e,_⟩:=wparse_form hf hne h
  have:=digits_all v.natAbs
  rw[←e,List.all_eq_true]at this
  have:=this c (List.mem_of_getElem? hk)
  rw[hc]at this;cases this
def FormP (neg:Bool) (l d:List UInt8):Prop:=(l=if neg then 45::d else d)∧(neg=false→d.head?≠some 45)
def signed (neg:Bool) (x:Nat):Int:=if neg then -(x:Int) else x
theorem wparse_not {l d:List UInt8} {neg:Bool} (hf:l=if neg then 45::d else d) (hne:neg=false→d.head?≠some 45) {k : Nat} (hk:d.length≤k∨k=11) (hx:¬ (In32W (signed neg (valD (d.take k)))∧Lib.itoa (signed neg (valD (d.take k)))=l)):wparse l=none:=by
 cases h:wparse l with
 | none=>rfl
 | some v =>
  exfalso
  obtain⟨e,e2,e3⟩:=wparse_form hf hne h
  have hl:=digits_len v.natAbs e3
  rw[←e]at hl
  have ht:d.take k=d:=List.take_of_length_le (by omega)
  rw[ht]at hx
  have hv:signed neg (valD d)=v:=by
   unfold signed
   rw[e,valD_digits];exact e2.symm
  rw[hv]at hx
  exact hx ⟨wparse_32 h,wparse_text h⟩
theorem wparse_is {l : List UInt8} {x : Int} (h1:In32W x) (h2:Lib.itoa x=l):wparse l=some x:=by rw[←h2];exact wparse_itoa h1
theorem take_next (D:ByteArray) {k : Nat} (h:k<D.size):D.data.toList.take (k+1)=D.data.toList.take k++[D[k]]:=by
 rw[List.take_succ_eq_append_getElem (by simpa using h)];rfl
def DigsP (D:ByteArray) (k:Nat) (x:Int):Prop:=k≤D.size∧k≤11∧x=(valD (D.data.toList.take k):Nat)∧(D.data.toList.take k).all isDig=true
theorem DigsP.bound {D : ByteArray} {k : Nat} {x : Int} (h:DigsP D k x):0≤x∧x<100000000000:=by
 obtain⟨h1,h2,rfl,h4⟩:=h
 have h5:=valD_lt _ h4
 have h6:(D.data.toList.take k).length≤k:=List.length_take_le _ _
 have h7:10 ^ (D.data.toList.take k).length≤10 ^ 11:=Nat.pow_le_pow_right (by decide) (by omega)
 omega
theorem DigsP.next {D : ByteArray} {k : Nat} {x : Int} (h:DigsP D k x) (hk:k<D.size) (h11:k<11) (hc:isDig D[k]=true):DigsP D (k+1) (10*x+((D[k].toNat:Int)-48)):=by
 obtain⟨h1,h2,rfl,h4⟩:=h
 have h5:48≤D[k].toNat:=by unfold isDig at hc;simp at hc;omega
 refine⟨by omega,by omega,?_,?_⟩
 ·rw[take_next D hk,valD_snoc];omega
 ·rw[take_next D hk,List.all_append,h4];simpa using hc
set_option maxHeartbeats 4000000 in
set_option maxRecDepth 100000 in
theorem rparse_neg (s D:ByteArray) (w:World) (hs:s.size≤1000000) (h0:0<s.size) (hm:(s[0].toNat:Int)=45) (hD:s.extract 1 s.size=D) :
  Calls Tryz.prog 56 #[.string s] w (ParseP s.data.toList w):=by
 have hsd:D.size+1=s.size:=by rw[←hD,ByteArray.size_extract];omega
 have hlt:D.size<s.size:=by omega
 have hq:((s[0].toNat:Int)==45)=true:=by simpa using hm
 have hf:s.data.toList=(if true then 45::D.data.toList else D.data.toList):=by
  rw[if_pos rfl,←hD]
  have h1:s.data.toList.length=s.size:=Array.length_toList
  have h2:(s.extract 1 s.size).data.toList=s.data.toList.drop 1:=by
   rw[ByteArray.data_extract,Array.toList_extract,List.extract_eq_take_drop,List.take_of_length_le]
   rw[List.length_drop,h1];exact Nat.le_refl _
  rw[h2]
  have h3:s.data.toList[0]? = some s[0]:=by rw[List.getElem?_eq_getElem (by omega)];rfl
  have h4:s[0]=45:=by apply UInt8.toNat_inj.1;show s[0].toNat=45;omega
  cases hl:s.data.toList with
  | nil=>rw[hl]at h1;simp at h1;omega
  | cons c r=>rw[hl]at h3;simp at h3;rw[h3,h4];rfl
 have HF:=Lib.hid (show FormP true s.data.toList D.data.toList from And.intro hf (show true=false→D.data.toList.head?≠some 45 from fun e=>by cases e))
 have HD:=Lib.hid hD
 have HS:=Lib.hid hsd
 clear hD hsd hm hf
 go_enter Tryz.func56,Tryz.ntmps56
 go_wp2_with fail
 rw[HD.out]
 go_loop [5,6] (fun x i=>∃ (k:Nat) (z:Int),x=.int .i64 z∧i=.int .i64 k∧DigsP D k z) (fun _ i=>11-(intOf i).toNat)
 case atStart=>exact⟨0,0,rfl,rfl,Nat.zero_le _,Nat.zero_le _,rfl,rfl⟩
 case round =>
  obtain⟨k,x,rfl,rfl,hP⟩:=hrel
  obtain⟨hx0,hx1⟩:=hP.bound
  have hk1:=hP.1
  have hk2:=hP.2.1
  have HP0:=Lib.hid hP
  have HX:=Lib.hid (show signed true (valD (D.data.toList.take k))=-x from by unfold signed;rw[hP.2.2.1];rfl)
  have HK0:=Lib.hid (show D.data.toList.length=D.size from Array.length_toList)
  clear hP
  by_cases hlt2:k<D.size
  ·by_cases h11:k<11
   ·by_cases hc:isDig D[k]=true
    ·have hn:=HP0.out.next hlt2 h11 hc
     have hc1:48≤(D[k].toNat:Int):=by unfold isDig at hc;simp at hc;omega
     have hc2:(D[k].toNat:Int)≤57:=by unfold isDig at hc;simp at hc;omega
     have HN:=Lib.hid hn
     clear hn hc
     go_wp2
     go_round
     case rel=>exact⟨k+1,_,rfl,by go_num,HN.out⟩
     case measure=>simp[intOf];omega
    ·have hcf:isDig D[k]=false:=by simpa using hc
     have HP:=Lib.hid (parse_none (l:=s.data.toList) (wparse_odd HF.out.1 HF.out.2 (k:=k) (c:=D[k]) (by rw[List.getElem?_eq_getElem (by rw[HK0.out];exact hlt2)];rfl) hcf) w w (Below.refl _ _))
     have hd:(D[k].toNat:Int)<48∨57<(D[k].toNat:Int):=by
      unfold isDig at hcf
      rw[Bool.and_eq_false_iff,decide_eq_false_iff_not,decide_eq_false_iff_not]at hcf
      omega
     clear hc hcf
     rcases hd with hd|hd
     ·go_wp2
      go_ret2
      exact HP.out
     ·have hd2:48≤(D[k].toNat:Int):=by omega
      go_wp2
      go_ret2
      exact HP.out
   ·obtain rfl:11=k:=by omega
    have HK:=Lib.hid (show D.data.toList.length≤11∨11=11 from .inr rfl)
    clear h11 hk1 hk2
    by_cases hr : -2147483648≤-x∧-x≤2147483647
    ·obtain⟨hr1,hr2⟩:=hr
     obtain⟨y,hy⟩:∃ y:ByteArray,(⟨(Lib.itoa (-x)).toArray⟩:ByteArray)=y:=⟨_,rfl⟩
     have HT:=Lib.hid (rtext_any (-x) w hr1 hr2)
     rw[hy]at HT
     have HYY:=Lib.hid hy
     clear hy
     by_cases he:y=s
     ·have hq2:(y.toList==s.toList)=true:=(Lib.bytes_beq_iff y s).2 he
      have HP:=Lib.hid (parse_some (wparse_is (l:=s.data.toList) (x:=-x) ⟨hr1,hr2⟩ (by rw[←he,←HYY.out])) w w (Below.refl _ _))
      clear he
      go_wp2_with fail
      refine HT.out.mono ?_
      rintro e w2 ⟨rfl,rfl⟩
      go_wp2
      go_ret2
      exact HP.out
     ·have hq2:(y.toList==s.toList)=false:=(Lib.bytes_beq_false_iff y s).2 he
      have HP:=Lib.hid (parse_none (l:=s.data.toList) (wparse_not HF.out.1 HF.out.2 HK.out (fun h=>he (bytes_ext (by rw[←HYY.out];exact HX.out ▸ h.2)))) w w (Below.refl _ _))
      clear he
      go_wp2_with fail
      refine HT.out.mono ?_
      rintro e w2 ⟨rfl,rfl⟩
      go_wp2
      go_ret2
      exact HP.out
    ·have HP:=Lib.hid (parse_none (l:=s.data.toList) (wparse_not HF.out.1 HF.out.2 HK.out (fun h=>hr (HX.out ▸ h.1))) w w (Below.refl _ _))
     by_cases hlo : -x < -2147483648
     ·clear hr
      go_wp2
      all_goals (go_ret2;exact HP.out)
     ·have hhi:2147483648≤-x:=by omega
      clear hr
      go_wp2
      all_goals (go_ret2;exact HP.out)
  ·obtain rfl:D.size=k:=by omega
   have HK:=Lib.hid (show D.data.toList.length≤D.size∨D.size=11 from .inl (by rw[HK0.out];exact Nat.le_refl _))
   clear hlt2 hk1
   by_cases hr : -2147483648≤-x∧-x≤2147483647
   ·obtain⟨hr1,hr2⟩:=hr
    obtain⟨y,hy⟩:∃ y:ByteArray,(⟨(Lib.itoa (-x)).toArray⟩:ByteArray)=y:=⟨_,rfl⟩
    have HT:=Lib.hid (rtext_any (-x) w hr1 hr2)
    rw[hy]at HT
    have HYY:=Lib.hid hy
    clear hy
    by_cases he:y=s
    ·have hq2:(y.toList==s.toList)=true:=(Lib.bytes_beq_iff y s).2 he
     have HP:=Lib.hid (parse_some (wparse_is (l:=s.data.toList) (x:=-x) ⟨hr1,hr2⟩ (by rw[←he,←HYY.out])) w w (Below.refl _ _))
     clear he
     go_wp2_with fail
     refine HT.out.mono ?_
     rintro e w2 ⟨rfl,rfl⟩
     go_wp2
     go_ret2
     exact HP.out
    ·have hq2:(y.toList==s.toList)=false:=(Lib.bytes_beq_false_iff y s).2 he
     have HP:=Lib.hid (parse_none (l:=s.data.toList) (wparse_not HF.out.1 HF.out.2 HK.out (fun h=>he (bytes_ext (by rw[←HYY.out];exact HX.out ▸ h.2)))) w w (Below.refl _ _))
     clear he
     go_wp2_with fail
     refine HT.out.mono ?_
     rintro e w2 ⟨rfl,rfl⟩
     go_wp2
     go_ret2
     exact HP.out
   ·have HP:=Lib.hid (parse_none (l:=s.data.toList) (wparse_not HF.out.1 HF.out.2 HK.out (fun h=>hr (HX.out ▸ h.1))) w w (Below.refl _ _))
    by_cases hlo : -x < -2147483648
    ·clear hr
     go_wp2
     all_goals (go_ret2;exact HP.out)
    ·have hhi:2147483648≤-x:=by omega
     clear hr
     go_wp2
     all_goals (go_ret2;exact HP.out)
set_option maxHeartbeats 4000000 in
set_option maxRecDepth 100000 in
theorem rparse_pos (s:ByteArray) (w:World) (hs:s.size≤1000000) (h0:0<s.size) (hm:(s[0].toNat:Int)≠45) :
  Calls Tryz.prog 56 #[.string s] w (ParseP s.data.toList w):=by
 have hq:((s[0].toNat:Int)==45)=false:=by simpa using hm
 have hne:s.data.toList.head?≠some 45:=by
  intro e
  have h1:s.data.toList.length=s.size:=Array.length_toList
  have h3:s.data.toList[0]? = some s[0]:=by rw[List.getElem?_eq_getElem (by omega)];rfl
  rw[←List.head?_eq_getElem?,e]at h3
  injection h3 with h3
  apply hm;rw[←h3];rfl
 have HF:=Lib.hid (show FormP false s.data.toList s.data.toList from And.intro rfl (fun (_:false=false)=>hne))
 clear hm hne
 go_enter Tryz.func56,Tryz.ntmps56
 go_wp2_with fail
 skip
 go_loop [5,6] (fun x i=>∃ (k:Nat) (z:Int),x=.int .i64 z∧i=.int .i64 k∧DigsP s k z) (fun _ i=>11-(intOf i).toNat)
 case atStart=>exact⟨0,0,rfl,rfl,Nat.zero_le _,Nat.zero_le _,rfl,rfl⟩
 case round =>
  obtain⟨k,x,rfl,rfl,hP⟩:=hrel
  obtain⟨hx0,hx1⟩:=hP.bound
  have hk1:=hP.1
  have hk2:=hP.2.1
  have HP0:=Lib.hid hP
  have HX:=Lib.hid (show signed false (valD (s.data.toList.take k))=x from by unfold signed;rw[hP.2.2.1];rfl)
  have HK0:=Lib.hid (show s.data.toList.length=s.size from Array.length_toList)
  clear hP
  by_cases hlt2:k<s.size
  ·by_cases h11:k<11
   ·by_cases hc:isDig s[k]=true
    ·have hn:=HP0.out.next hlt2 h11 hc
     have hc1:48≤(s[k].toNat:Int):=by unfold isDig at hc;simp at hc;omega
     have hc2:(s[k].toNat:Int)≤57:=by unfold isDig at hc;simp at hc;omega
     have HN:=Lib.hid hn
     clear hn hc
     go_wp2
     go_round
     case rel=>exact⟨k+1,_,rfl,by go_num,HN.out⟩
     case measure=>simp[intOf];omega
    ·have hcf:isDig s[k]=false:=by simpa using hc
     have HP:=Lib.hid (parse_none (l:=s.data.toList) (wparse_odd HF.out.1 HF.out.2 (k:=k) (c:=s[k]) (by rw[List.getElem?_eq_getElem (by rw[HK0.out];exact hlt2)];rfl) hcf) w w (Below.refl _ _))
     have hd:(s[k].toNat:Int)<48∨57<(s[k].toNat:Int):=by
      unfold isDig at hcf
      rw[Bool.and_eq_false_iff,decide_eq_false_iff_not,decide_eq_false_iff_not]at hcf
      omega
     clear hc hcf
     rcases hd with hd|hd
     ·go_wp2
      go_ret2
      exact HP.out
     ·have hd2:48≤(s[k].toNat:Int):=by omega
      go_wp2
      go_ret2
      exact HP.out
   ·obtain rfl:11=k:=by omega
    have HK:=Lib.hid (show s.data.toList.length≤11∨11=11 from .inr rfl)
    clear h11 hk1 hk2
    by_cases hr : -2147483648≤x∧x≤2147483647
    ·obtain⟨hr1,hr2⟩:=hr
     obtain⟨y,hy⟩:∃ y:ByteArray,(⟨(Lib.itoa (x)).toArray⟩:ByteArray)=y:=⟨_,rfl⟩
     have HT:=Lib.hid (rtext_any (x) w hr1 hr2)
     rw[hy]at HT
     have HYY:=Lib.hid hy
     clear hy
     by_cases he:y=s
     ·have hq2:(y.toList==s.toList)=true:=(Lib.bytes_beq_iff y s).2 he
      have HP:=Lib.hid (parse_some (wparse_is (l:=s.data.toList) (x:=x) ⟨hr1,hr2⟩ (by rw[←he,←HYY.out])) w w (Below.refl _ _))
      clear he
      go_wp2_with fail
      refine HT.out.mono ?_
      rintro e w2 ⟨rfl,rfl⟩
      go_wp2
      go_ret2
      exact HP.out
     ·have hq2:(y.toList==s.toList)=false:=(Lib.bytes_beq_false_iff y s).2 he
      have HP:=Lib.hid (parse_none (l:=s.data.toList) (wparse_not HF.out.1 HF.out.2 HK.out (fun h=>he (bytes_ext (by rw[←HYY.out];exact HX.out ▸ h.2)))) w w (Below.refl _ _))
      clear he
      go_wp2_with fail
      refine HT.out.mono ?_
      rintro e w2 ⟨rfl,rfl⟩
      go_wp2
      go_ret2
      exact HP.out
    ·have HP:=Lib.hid (parse_none (l:=s.data.toList) (wparse_not HF.out.1 HF.out.2 HK.out (fun h=>hr (HX.out ▸ h.1))) w w (Below.refl _ _))
     by_cases hlo:x < -2147483648
     ·clear hr
      go_wp2
      all_goals (go_ret2;exact HP.out)
     ·have hhi:2147483648≤x:=by omega
      clear hr
      go_wp2
      all_goals (go_ret2;exact HP.out)
  ·obtain rfl:s.size=k:=by omega
   have HK:=Lib.hid (show s.data.toList.length≤s.size∨s.size=11 from .inl (by rw[HK0.out];exact Nat.le_refl _))
   clear hlt2 hk1
   by_cases hr : -2147483648≤x∧x≤2147483647
   ·obtain⟨hr1,hr2⟩:=hr
    obtain⟨y,hy⟩:∃ y:ByteArray,(⟨(Lib.itoa (x)).toArray⟩:ByteArray)=y:=⟨_,rfl⟩
    have HT:=Lib.hid (rtext_any (x) w hr1 hr2)
    rw[hy]at HT
    have HYY:=Lib.hid hy
    clear hy
    by_cases he:y=s
    ·have hq2:(y.toList==s.toList)=true:=(Lib.bytes_beq_iff y s).2 he
     have HP:=Lib.hid (parse_some (wparse_is (l:=s.data.toList) (x:=x) ⟨hr1,hr2⟩ (by rw[←he,←HYY.out])) w w (Below.refl _ _))
     clear he
     go_wp2_with fail
     refine HT.out.mono ?_
     rintro e w2 ⟨rfl,rfl⟩
     go_wp2
     go_ret2
     exact HP.out
    ·have hq2:(y.toList==s.toList)=false:=(Lib.bytes_beq_false_iff y s).2 he
     have HP:=Lib.hid (parse_none (l:=s.data.toList) (wparse_not HF.out.1 HF.out.2 HK.out (fun h=>he (bytes_ext (by rw[←HYY.out];exact HX.out ▸ h.2)))) w w (Below.refl _ _))
     clear he
     go_wp2_with fail
     refine HT.out.mono ?_
     rintro e w2 ⟨rfl,rfl⟩
     go_wp2
     go_ret2
     exact HP.out
   ·have HP:=Lib.hid (parse_none (l:=s.data.toList) (wparse_not HF.out.1 HF.out.2 HK.out (fun h=>hr (HX.out ▸ h.1))) w w (Below.refl _ _))
    by_cases hlo:x < -2147483648
    ·clear hr
     go_wp2
     all_goals (go_ret2;exact HP.out)
    ·have hhi:2147483648≤x:=by omega
     clear hr
     go_wp2
     all_goals (go_ret2;exact HP.out)
set_option maxHeartbeats 4000000 in
set_option maxRecDepth 100000 in
theorem rparse_empty (s:ByteArray) (w:World) (h0:s.size=0) :
  Calls Tryz.prog 56 #[.string s] w (ParseP s.data.toList w):=by
 obtain rfl:s=⟨#[]⟩:=by
  apply ByteArray.ext
  exact Array.eq_empty_of_size_eq_zero h0
 have HP:=Lib.hid (parse_none (l:=(⟨#[]⟩:ByteArray).data.toList) rfl w w (Below.refl _ _))
 obtain⟨y,hy⟩:∃ y:ByteArray,(⟨(Lib.itoa 0).toArray⟩:ByteArray)=y:=⟨_,rfl⟩
 have HT:=Lib.hid (rtext_any 0 w (by decide) (by decide))
 rw[hy]at HT
 have hl:y.toList=[48]:=by rw[←hy];decide +kernel
 have hq1:y.toList.isEmpty=false:=by rw[hl];rfl
 have hq2:(y.toList==[])=false:=by rw[hl];rfl
 have hq3:(y.toList==(⟨#[]⟩:ByteArray).toList)=false:=by rw[hl];decide +kernel
 clear h0 hy hl
 go_enter Tryz.func56,Tryz.ntmps56
 go_wp2_with fail
 go_loop [5,6] (fun x i=>x=.int .i64 0∧i=.int .i64 0) (fun _ _=>0)
 case atStart=>exact⟨rfl,rfl⟩
 case round =>
  obtain⟨rfl,rfl⟩:=hrel
  go_wp2_with fail
  refine HT.out.mono ?_
  rintro e w2 ⟨rfl,rfl⟩
  go_wp2
  all_goals (go_ret2;exact HP.out)
theorem rparse_any (s:ByteArray) (w:World) (hs:s.size≤1000000):Calls Tryz.prog 56 #[.string s] w (ParseP s.data.toList w):=by
 by_cases h0:s.size=0
 ·exact rparse_empty s w h0
 ·by_cases hm:(s[0].toNat:Int)=45
  ·exact rparse_neg s _ w hs (by omega) hm rfl
  ·exact rparse_pos s w hs (by omega) hm
def dMeas (s u:Value):Nat:=2*(intOf u).toNat+(match s with | .string b=>if b.size=0 then 1 else 0 | _=>0)
theorem behind_ne {U u:Nat} {out:ByteArray} (h:Behind U u out) (hu:u<U∨U=0):out≠ByteArray.empty:=by
 intro e
 subst e
 unfold Behind at h
 split at h
 ·have:decB U=ByteArray.empty:=h.symm
  have h2:=congrArg (fun b:ByteArray=>b.data.toList) this
  exact decDigits_ne U h2
 ·have h2:Lib.decDigits u++[]=Lib.decDigits U:=h
  rw[List.append_nil]at h2
  have h3:=valD_digits u
  rw[h2,valD_digits]at h3
  omega
theorem conv_one (w:World) (c:Int):(convert 63 9 (.slice (some ⟨w.heap.size,0,none⟩) 1 1)).run Tryz.prog (w.alloc (.cells #[.int .u8 c] 5))=.ok (.string ⟨#[UInt8.ofNat c.toNat]⟩) (w.alloc (.cells #[.int .u8 c] 5)):=by
 rw[run_convert_bytes_string _ _ _ _ _ _ _ Tryz.underlying63 Tryz.underlying5 Tryz.underlying9]
 rw[run_bytesToString _ _ 1 1 [c] (by simp[go_sem])]
 rfl
theorem dig_u8 (u:Nat):(⟨#[UInt8.ofNat (48+(u:Int) % 10).toNat]⟩:ByteArray)=digB (u % 10):=by
 unfold digB
 rw[show (48+(u:Int) % 10).toNat=48+u % 10 from by omega]
theorem bytes_empty (b:ByteArray):b++⟨#[]⟩=b:=by
 apply bytes_ext;rw[bytes_app];simp
theorem dmeas_first (u d:Nat):dMeas (.string (digB d)) (.int .u64 ((u / 10:Nat):Int))<dMeas (.string ⟨#[]⟩) (.int .u64 (u:Int)):=by
 have e1:(digB d).size=1:=rfl
 have e2:(⟨#[]⟩:ByteArray).size=0:=rfl
 show 2*((u / 10:Nat):Int).toNat+(if (digB d).size=0 then 1 else 0)<2*(u:Int).toNat+(if (⟨#[]⟩:ByteArray).size=0 then 1 else 0)
 rw[e1,e2,if_neg (by decide),if_pos rfl]
 omega
theorem dmeas_next (u d:Nat) (out:ByteArray) (h:0<u):dMeas (.string (digB d++out)) (.int .u64 ((u / 10:Nat):Int))<dMeas (.string out) (.int .u64 (u:Int)):=by
 have e1:(digB d++out).size≠0:=by rw[ByteArray.size_append];have:(digB d).size=1:=rfl;omega
 show 2*((u / 10:Nat):Int).toNat+(if (digB d++out).size=0 then 1 else 0)<2*(u:Int).toNat+(if out.size=0 then 1 else 0)
 rw[if_neg e1]
 omega
theorem behind_len {U u:Nat} {out:ByteArray} (h:Behind U u out) (hU:U≤9223372036854775808):out.size≤22:=by
 have h1:=Lib.itoa_length_le (-(U:Int)) (by omega) (by omega)
 have h2:out.data.toList.length=out.size:=Array.length_toList
 have h3:(Lib.decDigits U).length≤22:=by
  by_cases h0:U=0
  ·subst h0;rw[decDigits_small (by decide)];simp
  ·rw[itoa_neg (by omega)]at h1
   simp only[List.length_cons,Int.natAbs_neg,Int.natAbs_natCast]at h1
   omega
 unfold Behind at h
 split at h
 ·rw[h]at h2
  have h4:(decB U).data.toList.length=(Lib.decDigits U).length:=rfl
  rw[h];omega
 ·rw[←h,List.length_append]at h3;omega
set_option maxHeartbeats 2000000 in
set_option maxRecDepth 100000 in
theorem rd_any (n:Int) (w:World) (hn:In64 n):Calls Tryz.prog 27 #[.int .i64 n] w (StrQ ⟨(dS n).toArray⟩ w):=by
 obtain⟨U,hU⟩:∃ U:Nat,n.natAbs=U:=⟨_,rfl⟩
 obtain⟨hn1,hn2⟩:=hn
 have hUl:U≤9223372036854775808:=by omega
 by_cases hneg:n<0
 ·obtain rfl:n=-(U:Int):=by omega
  have HT:=Lib.hid (show (⟨#[32]⟩:ByteArray)++(⟨#[45]⟩++decB U)=⟨(dS (-(U:Int))).toArray⟩ from by
   apply bytes_ext
   rw[bytes_app,bytes_app]
   unfold decB dS
   rw[itoa_neg hneg,hU];rfl)
  have HW:=Lib.hid (show IntKind.u64.wrap (-IntKind.u64.wrap (-(U:Int)))=(U:Int) from by unfold IntKind.wrap;simp[IntKind.signed,IntKind.bits];omega)
  clear hU
  go_enter Tryz.func27,Tryz.ntmps27
  go_wp2_with fail
  go_loopw [3,4] (fun so uo wr=>∃ (u:Nat) (out:ByteArray),so=.string out∧uo=.int .u64 u∧u≤U∧((u=U∧out=⟨#[]⟩)∨((u<U∨U=0)∧Behind U u out))∧Since w wr) (fun so uo _=>dMeas so uo)
  case atStart=>exact⟨U,_,rfl,by rw[HW.out],Nat.le_refl _,.inl ⟨rfl,rfl⟩,Since.refl _⟩
  case round =>
   obtain⟨u,out,rfl,rfl,huU,hB,hs⟩:=hrel
   have HS:=Lib.hid hs
   clear hs
   rcases hB with ⟨rfl,rfl⟩|⟨hlu,hB⟩
   ·have HN:=Lib.hid (behind_first u)
    have hcv:=conv_one wr (48+(u:Int) % 10)
    rw[dig_u8]at hcv
    have HM:=Lib.hid (dmeas_first u (u % 10))
    have he:=bytes_empty (digB (u % 10))
    have hz:(digB (u % 10)).size=1:=rfl
    by_cases h0:0<u
    ·go_wp2
     go_roundw
     case rel=>exact⟨u / 10,_,rfl,by simp,by omega,.inr ⟨by omega,HN.out⟩,HS.out.alloc _⟩
     case measure=>simpa using HM.out
    ·exfalso;omega
   ·have hz:=behind_len hB (by omega)
    have hne:(out.toList==[])=false:=by rw[ByteArray.toList_eq,beq_eq_false_iff_ne];intro e;exact behind_ne hB hlu (bytes_ext e)
    have HNE:=Lib.hid (behind_ne hB hlu)
    have HB:=Lib.hid hB
    clear hB
    by_cases h0:0<u
    ·have HN:=Lib.hid (behind_next HB.out (by omega))
     have hcv:=conv_one wr (48+(u:Int) % 10)
     rw[dig_u8]at hcv
     have hz1:(digB (u % 10)).size=1:=rfl
     have HM:=Lib.hid (dmeas_next u (u % 10) out h0)
     go_wp2
     go_roundw
     case rel=>exact⟨u / 10,_,rfl,by simp,by omega,.inr ⟨by omega,HN.out⟩,HS.out.alloc _⟩
     case measure=>simpa using HM.out
    ·obtain rfl:0=u:=by omega
     obtain rfl:out=decB U:=by have:=HB.out;unfold Behind at this;rwa [if_pos rfl]at this
     go_wp2
     try rw[HT.out]
     go_ret
     exact⟨rfl,HS.out⟩
 ·obtain rfl:n=(U:Int):=by omega
  have HT:=Lib.hid (show (⟨#[32]⟩:ByteArray)++decB U=⟨(dS (U:Int)).toArray⟩ from by
   apply bytes_ext
   rw[bytes_app]
   unfold decB dS
   rw[itoa_pos hneg];rfl)
  clear hU
  go_enter Tryz.func27,Tryz.ntmps27
  go_wp2_with fail
  go_loopw [3,4] (fun so uo wr=>∃ (u:Nat) (out:ByteArray),so=.string out∧uo=.int .u64 u∧u≤U∧((u=U∧out=⟨#[]⟩)∨((u<U∨U=0)∧Behind U u out))∧Since w wr) (fun so uo _=>dMeas so uo)
  case atStart=>exact⟨U,_,rfl,rfl,Nat.le_refl _,.inl ⟨rfl,rfl⟩,Since.refl _⟩
  case round =>
   obtain⟨u,out,rfl,rfl,huU,hB,hs⟩:=hrel
   have HS:=Lib.hid hs
   clear hs
   rcases hB with ⟨rfl,rfl⟩|⟨hlu,hB⟩
   ·have HN:=Lib.hid (behind_first u)
    have hcv:=conv_one wr (48+(u:Int) % 10)
    rw[dig_u8]at hcv
    have HM:=Lib.hid (dmeas_first u (u % 10))
    have he:=bytes_empty (digB (u % 10))
    have hz:(digB (u % 10)).size=1:=rfl
    by_cases h0:0<u
    ·go_wp2
     go_roundw
     case rel=>exact⟨u / 10,_,rfl,by simp,by omega,.inr ⟨by omega,HN.out⟩,HS.out.alloc _⟩
     case measure=>simpa using HM.out
    ·go_wp2
     go_roundw
     case rel=>exact⟨u / 10,_,rfl,by simp,by omega,.inr ⟨by omega,HN.out⟩,HS.out.alloc _⟩
     case measure=>simpa using HM.out
   ·have hz:=behind_len hB (by omega)
    have hne:(out.toList==[])=false:=by rw[ByteArray.toList_eq,beq_eq_false_iff_ne];intro e;exact behind_ne hB hlu (bytes_ext e)
    have HNE:=Lib.hid (behind_ne hB hlu)
    have HB:=Lib.hid hB
    clear hB
    by_cases h0:0<u
    ·have HN:=Lib.hid (behind_next HB.out (by omega))
     have hcv:=conv_one wr (48+(u:Int) % 10)
     rw[dig_u8]at hcv
     have hz1:(digB (u % 10)).size=1:=rfl
     have HM:=Lib.hid (dmeas_next u (u % 10) out h0)
     go_wp2
     go_roundw
     case rel=>exact⟨u / 10,_,rfl,by simp,by omega,.inr ⟨by omega,HN.out⟩,HS.out.alloc _⟩
     case measure=>simpa using HM.out
    ·obtain rfl:0=u:=by omega
     obtain rfl:out=decB U:=by have:=HB.out;unfold Behind at this;rwa [if_pos rfl]at this
     go_wp2
     try rw[HT.out]
     go_ret
     exact⟨rfl,HS.out⟩
theorem bs_app (a b:Bs):(⟨a.toArray⟩:ByteArray)++⟨b.toArray⟩=⟨(a++b).toArray⟩:=by apply bytes_ext;rw[bytes_app]
theorem bs_size (a:Bs):(⟨a.toArray⟩:ByteArray).size=a.length:=by rw[←bytes_len]
set_option maxHeartbeats 1000000 in
set_option maxRecDepth 100000 in
theorem rall_any (v:Value) (l:List Int) (w:World) (hl:Ints w v l) (hr:∀ x∈l,In64 x) (hn:(allS l).length≤1000000000000):Calls Tryz.prog 50 #[v] w (StrQ ⟨(allS l).toArray⟩ w):=by
 obtain⟨a,c,rfl⟩:=nums_lenI hl
 have hll:=Nums.len hl
 unfold maxLen at hll
 have HL:=Lib.hid hl
 have HR:=Lib.hid hr
 have HN:=Lib.hid hn
 clear hl hr hn
 go_enter Tryz.func50,Tryz.ntmps50
 go_wp2_with fail
 go_loopw [3,4] (fun so io wr=>∃ (k:Nat) (out:ByteArray),out=⟨((l.take k).flatMap dS).toArray⟩∧so=.string out∧io=.int .i64 k∧k≤l.length∧Since w wr) (fun _ io _=>l.length-(intOf io).toNat)
 case atStart=>exact⟨0,⟨#[]⟩,rfl,rfl,rfl,Nat.zero_le _,Since.refl _⟩
 case round =>
  obtain⟨k,out,ho,rfl,rfl,hk,hs⟩:=hrel
  have HO:=Lib.hid ho
  have HS:=Lib.hid hs
  by_cases hlt:k<l.length
  ·obtain⟨b,off,x,rfl,hb,hx,hc⟩:=nums_at HL.out hlt
   have hcx:=(hs.cell (p:=⟨b,off+k,none⟩) hb).trans hc
   have hbl:b<wr.heap.size:=Nat.lt_of_lt_of_le hb hs.size
   obtain⟨z,hz⟩:∃ z:ByteArray,⟨(dS x).toArray⟩=z:=⟨_,rfl⟩
   have hd:=rd_any x wr (HR.out x (List.mem_of_getElem? hx))
   rw[hz]at hd
   have HD:=Lib.hid hd
   have hzz:¬ 9223372036854775807<out.size+z.size:=by
    rw[ho,←hz,bs_size,bs_size]
    have h1:=flat_take dS l (k+1)
    rw[flat_next dS hx,List.length_append]at h1
    have:=HN.out
    unfold allS at this
    omega
   have HX:=Lib.hid (show out++z=⟨((l.take (k+1)).flatMap dS).toArray⟩ from by rw[ho,←hz,bs_app,flat_next dS hx])
   clear hd hs ho hz hx hc hb
   go_wp2_with fail
   refine HD.out.mono ?_
   rintro e w2 ⟨rfl,hs2⟩
   have HS2:=Lib.hid (HS.out.trans hs2)
   clear hs2
   go_wp2
   go_roundw
   case rel=>exact⟨k+1,_,HX.out,rfl,by go_num,by omega,HS2.out⟩
   case measure=>simp[intOf];omega
  ·obtain rfl:l.length=k:=by omega
   rw[List.take_length]at HO
   clear ho hs
   go_wp2
   go_ret
   exact⟨by rw[HO.out];rfl,HS.out⟩
def d3 (n:Int):Bs:=Lib.itoa n++[32]
def row3 (l:List Int):Bs:=91::(l.flatMap d3++[93])
def In63 (n:Int):Prop:=-9223372036854775807≤n∧n≤9223372036854775807
def d3Meas (u:Value) (f:Value):Nat:=2*(intOf u).toNat+(match f with | .bool true=>1 | _=>0)
theorem d3_len (n:Int) (h:In63 n):(d3 n).length≤22:=by
 have:=Lib.itoa_length_le n (by have:=h.1;omega) (by have:=h.2;omega)
 unfold d3;simp only[List.length_append,List.length_cons,List.length_nil];omega
set_option maxHeartbeats 2000000 in
set_option maxRecDepth 100000 in
theorem digits_any (n:Int) (w:World) (hn:In63 n):Calls Tryz.prog 81 #[.int .i64 n] w (StrQ ⟨(d3 n).toArray⟩ w):=by
 obtain⟨U,hU⟩:∃ U:Nat,n.natAbs=U:=⟨_,rfl⟩
 obtain⟨hn1,hn2⟩:=hn
 have hUl:U≤9223372036854775807:=by omega
 obtain⟨z,hz⟩:∃ z:ByteArray,⟨(d3 n).toArray⟩=z:=⟨_,rfl⟩
 rw[hz]
 have HOUT:=Lib.hid (show if n<0 then (⟨#[45]⟩++decB U)++⟨#[32]⟩=z else decB U++⟨#[32]⟩=z from by
  rw[←hz]
  by_cases hneg:n<0
  ·rw[if_pos hneg]
   apply bytes_ext
   rw[bytes_app,bytes_app]
   unfold decB d3
   rw[itoa_neg hneg,hU];rfl
  ·rw[if_neg hneg]
   apply bytes_ext
   rw[bytes_app]
   unfold decB d3
   rw[itoa_pos hneg,show n.toNat=U from by omega])
 clear hz
 have HU:=Lib.hid hU
 go_enter Tryz.func81,Tryz.ntmps81
 by_cases hneg:n<0
 ·obtain rfl:n=-(U:Int):=by omega
  have hw:(0:Int) - -(U:Int)=(U:Int):=by omega
  clear hU
  go_wp2_with fail
  go_loopw [3,4,5] (fun so uo fo wr=>∃ (u:Nat) (out:ByteArray) (fi:Bool),so=.string out∧uo=.int .i64 u∧fo=.bool fi∧u≤U∧((fi=true∧u=U∧out=⟨#[]⟩)∨(fi=false∧(u<U∨U=0)∧Behind U u out))∧Since w wr) (fun _ uo fo _=>d3Meas uo fo)
  case atStart=>exact⟨U,_,true,rfl,by first | rfl | (rw[hw]) | simp,rfl,Nat.le_refl _,.inl ⟨rfl,rfl,rfl⟩,Since.refl _⟩
  case round =>
   obtain⟨u,out,fi,rfl,rfl,rfl,huU,hB,hs⟩:=hrel
   have HS:=Lib.hid hs
   clear hs
   have hdg:¬ (u:Int) % 10<0:=by omega
   have hcv:=conv_one wr (48+(u:Int) % 10)
   rw[dig_u8]at hcv
   have hz1:(digB (u % 10)).size=1:=rfl
   rcases hB with ⟨rfl,rfl,rfl⟩|⟨rfl,hlu,hB⟩
   ·have HN:=Lib.hid (behind_first u)
    have he:=bytes_empty (digB (u % 10))
    go_wp2
    go_roundw
    case rel=>exact⟨u / 10,_,false,rfl,by simp,rfl,by omega,.inr ⟨rfl,by omega,HN.out⟩,HS.out.alloc _⟩
    case measure=>simp[d3Meas,intOf];omega
   ·have hz:=behind_len hB (by omega)
    have HB:=Lib.hid hB
    clear hB
    by_cases h0:0<u
    ·have HN:=Lib.hid (behind_next HB.out (by omega))
     go_wp2
     go_roundw
     case rel=>exact⟨u / 10,_,false,rfl,by simp,rfl,by omega,.inr ⟨rfl,by omega,HN.out⟩,HS.out.alloc _⟩
     case measure=>simp[d3Meas,intOf];omega
    ·obtain rfl:0=u:=by omega
     obtain rfl:out=decB U:=by have:=HB.out;unfold Behind at this;rwa [if_pos rfl]at this
     have hfin:=HOUT.out
     rw[if_pos (by omega)]at hfin
     clear hcv hdg
     go_wp2
     try rw[hfin]
     go_ret
     exact⟨rfl,HS.out⟩
 ·obtain rfl:n=(U:Int):=by omega
  clear hU
  go_wp2_with fail
  go_loopw [3,4,5] (fun so uo fo wr=>∃ (u:Nat) (out:ByteArray) (fi:Bool),so=.string out∧uo=.int .i64 u∧fo=.bool fi∧u≤U∧((fi=true∧u=U∧out=⟨#[]⟩)∨(fi=false∧(u<U∨U=0)∧Behind U u out))∧Since w wr) (fun _ uo fo _=>d3Meas uo fo)
  case atStart=>exact⟨U,_,true,rfl,by first | rfl | (rw[hw]) | simp,rfl,Nat.le_refl _,.inl ⟨rfl,rfl,rfl⟩,Since.refl _⟩
  case round =>
   obtain⟨u,out,fi,rfl,rfl,rfl,huU,hB,hs⟩:=hrel
   have HS:=Lib.hid hs
   clear hs
   have hdg:¬ (u:Int) % 10<0:=by omega
   have hcv:=conv_one wr (48+(u:Int) % 10)
   rw[dig_u8]at hcv
   have hz1:(digB (u % 10)).size=1:=rfl
   rcases hB with ⟨rfl,rfl,rfl⟩|⟨rfl,hlu,hB⟩
   ·have HN:=Lib.hid (behind_first u)
    have he:=bytes_empty (digB (u % 10))
    go_wp2
    go_roundw
    case rel=>exact⟨u / 10,_,false,rfl,by simp,rfl,by omega,.inr ⟨rfl,by omega,HN.out⟩,HS.out.alloc _⟩
    case measure=>simp[d3Meas,intOf];omega
   ·have hz:=behind_len hB (by omega)
    have HB:=Lib.hid hB
    clear hB
    by_cases h0:0<u
    ·have HN:=Lib.hid (behind_next HB.out (by omega))
     go_wp2
     go_roundw
     case rel=>exact⟨u / 10,_,false,rfl,by simp,rfl,by omega,.inr ⟨rfl,by omega,HN.out⟩,HS.out.alloc _⟩
     case measure=>simp[d3Meas,intOf];omega
    ·obtain rfl:0=u:=by omega
     obtain rfl:out=decB U:=by have:=HB.out;unfold Behind at this;rwa [if_pos rfl]at this
     have hfin:=HOUT.out
     rw[if_neg (by omega)]at hfin
     clear hcv hdg
     go_wp2
     try rw[hfin]
     go_ret
     exact⟨rfl,HS.out⟩
set_option maxHeartbeats 1000000 in
set_option maxRecDepth 100000 in
theorem row3_any (v:Value) (l:List Int) (w:World) (hl:Ints w v l) (hr:∀ x∈l,In63 x) (hn:(l.flatMap d3).length≤1000000000000):Calls Tryz.prog 82 #[v] w (StrQ ⟨(row3 l).toArray⟩ w):=by
 obtain⟨a,c,rfl⟩:=nums_lenI hl
 have hll:=Nums.len hl
 unfold maxLen at hll
 have HL:=Lib.hid hl
 have HR:=Lib.hid hr
 have HN:=Lib.hid hn
 clear hl hr hn
 go_enter Tryz.func82,Tryz.ntmps82
 go_wp2_with fail
 go_loopw [3,4] (fun so io wr=>∃ (k:Nat) (out:ByteArray),out=⟨(91::(l.take k).flatMap d3).toArray⟩∧so=.string out∧io=.int .i64 k∧k≤l.length∧Since w wr) (fun _ io _=>l.length-(intOf io).toNat)
 case atStart=>exact⟨0,_,rfl,rfl,rfl,Nat.zero_le _,Since.refl _⟩
 case round =>
  obtain⟨k,out,ho,rfl,rfl,hk,hs⟩:=hrel
  have HO:=Lib.hid ho
  have HS:=Lib.hid hs
  have hos:out.size≤1000000000001:=by
   rw[ho,bs_size,List.length_cons]
   have h1:=flat_take d3 l k
   have:=HN.out
   omega
  by_cases hlt:k<l.length
  ·obtain⟨b,off,x,rfl,hb,hx,hc⟩:=nums_at HL.out hlt
   have hcx:=(hs.cell (p:=⟨b,off+k,none⟩) hb).trans hc
   have hbl:b<wr.heap.size:=Nat.lt_of_lt_of_le hb hs.size
   obtain⟨z,hz⟩:∃ z:ByteArray,⟨(d3 x).toArray⟩=z:=⟨_,rfl⟩
   have hxr:=HR.out x (List.mem_of_getElem? hx)
   have hd:=digits_any x wr hxr
   rw[hz]at hd
   have HD:=Lib.hid hd
   have hzz:z.size≤22:=by rw[←hz,bs_size];exact d3_len x hxr
   have HX:=Lib.hid (show out++z=⟨(91::(l.take (k+1)).flatMap d3).toArray⟩ from by rw[ho,←hz,bs_app,flat_next d3 hx];rfl)
   clear hd hs ho hz hx hc hb hxr
   go_wp2_with fail
   refine HD.out.mono ?_
   rintro e w2 ⟨rfl,hs2⟩
   have HS2:=Lib.hid (HS.out.trans hs2)
   clear hs2
   go_wp2
   go_roundw
   case rel=>exact⟨k+1,_,HX.out,rfl,by go_num,by omega,HS2.out⟩
   case measure=>simp[intOf];omega
  ·obtain rfl:l.length=k:=by omega
   rw[List.take_length]at HO
   have HF:=Lib.hid (show out++⟨#[93]⟩=⟨(row3 l).toArray⟩ from by rw[HO.out];apply bytes_ext;rw[bytes_app];unfold row3;simp)
   clear ho hs
   go_wp2
   try rw[HF.out]
   go_ret
   exact⟨rfl,HS.out⟩
end Go.Proofs.YtmhojfpidedjeaaGreatDoor
