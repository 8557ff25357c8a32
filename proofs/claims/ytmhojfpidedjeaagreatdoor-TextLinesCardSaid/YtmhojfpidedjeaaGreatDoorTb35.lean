/- jacquardlaw25.some, turned: a text of which one word is another one. Plain: texts that end with a line's end. Texts of right functions, of which some words are turned. jacquardlaw25.TextFirst tells of any numbers and any text that it is true. -/
import Derived.Test.YtmhojfpidedjeaaGreatDoorTb03
import Derived.Test.YtmhojfpidedjeaaGreatDoorTb04
import Derived.Test.YtmhojfpidedjeaaGreatDoorTb05
import Derived.Test.YtmhojfpidedjeaaGreatDoorTb09
import Derived.Test.YtmhojfpidedjeaaGreatDoorTb33
import Derived.Test.YtmhojfpidedjeaaGreatDoorTb34
namespace Go.Proofs.YtmhojfpidedjeaaGreatDoor
open Go.RowKit
set_option linter.unusedVariables false
def someL:List ByteArray:=[⟨#[]⟩,⟨#[120]⟩,⟨#[48]⟩,⟨#[49]⟩,⟨#[45,49]⟩,⟨#[48,48,55]⟩,⟨#[57,57,57,57,57,57,57,57,57,57,57]⟩,⟨#[102,117,110,99]⟩,⟨#[98,108,111,99,107]⟩,⟨#[112,104,105]⟩,⟨#[97,100,100]⟩,⟨#[99,111,110,115,116]⟩,⟨#[99,97,108,108]⟩,⟨#[115,116,111,114,101]⟩,⟨#[108,111,97,100]⟩,⟨#[109,117,108,119]⟩,⟨#[106,117,109,112]⟩,⟨#[98,114,97,110,99,104]⟩,⟨#[115,119,105,116,99,104]⟩,⟨#[114,101,116]⟩,⟨#[116,114,97,112]⟩,⟨#[48,58,49]⟩,⟨#[49,58]⟩,⟨#[49,58,50,58,51]⟩,⟨#[58]⟩,⟨#[35]⟩,⟨#[10]⟩,⟨#[116,105,108,101]⟩,⟨#[116,105,108,101,32,108,105,32,49]⟩,⟨#[108,105,119]⟩,⟨#[63]⟩]
set_option maxRecDepth 100000 in
theorem some_any (w:World):Calls Tryz.prog 36 #[] w (FieldsQ 31 someL w):=by
 go_enter Tryz.func36,Tryz.ntmps36
 go_wp2
 go_ret
 exact⟨rfl,strs_block w someL _,(Since.refl _).alloc _⟩
def TurnOf (s t:ByteArray):Prop:=t=s∨∃ fr i x,fr≤i∧i<s.size∧x∈someL∧t=s.extract 0 fr++x++s.extract i s.size
theorem some_le:∀ x∈someL,x.size≤11:=by decide
theorem TurnOf.size {s t:ByteArray} (h:TurnOf s t):t.size≤s.size+11:=by
 rcases h with rfl|⟨fr,i,x,h1,h2,h3,rfl⟩
 ·omega
 ·have:=some_le x h3
  rw[ByteArray.size_append,ByteArray.size_append,ByteArray.size_extract,ByteArray.size_extract];omega
theorem band_range (a:Int) (m:Nat) (hm:m<4611686018427387904):0≤bits .and .i64 a m∧bits .and .i64 a m≤m:=by
 have h:bits .and .i64 a m=IntKind.i64.wrap ((BitVec.ofInt 64 a &&& BitVec.ofInt 64 m).toNat:Int):=rfl
 have h1:(BitVec.ofInt 64 (m:Int)).toNat=m:=by rw[BitVec.toNat_ofInt];omega
 have h2:(BitVec.ofInt 64 a &&& BitVec.ofInt 64 m).toNat≤m:=by
  rw[BitVec.toNat_and,h1];exact Nat.and_le_right
 rw[h,IntWalk.i64_in _ (by omega)]
 omega
theorem byte_not0 {x y:UInt8} {z : Int} (h:x≠y) (hz:(y.toNat:Int)=z):((x.toNat:Int)==z)=false:=by
 rw[beq_eq_false_iff_ne]
 intro e
 apply h
 apply UInt8.toNat.inj
 omega
theorem sep_cases {x : UInt8} (h:x=32∨x=10):((x.toNat:Int)==32)=true∨((x.toNat:Int)==32)=false∧((x.toNat:Int)==10)=true:=by
 rcases h with rfl|rfl
 ·exact .inl (by decide)
 ·exact .inr ⟨by decide,by decide⟩
theorem tmod_le {a n:Int} (h:0≤a) (hn:0<n):a.tmod n≤a:=by
 rw[Int.tmod_eq_emod_of_nonneg h]
 rcases Int.lt_or_le a n with h1|h1
 ·rw[Int.emod_eq_of_lt h h1];exact Int.le_refl _
 ·have:=Int.emod_lt_of_pos a hn;omega
set_option maxHeartbeats 8000000 in
set_option maxRecDepth 100000 in
theorem turned_any (s:ByteArray) (at_ wi:Int) (w:World) (hs:s.size≤1000000) (ha:In64 at_) (hw:In64 wi):Calls Tryz.prog 16 #[.string s,.int .i64 at_,.int .i64 wi] w fun e w'=>∃ t,e=.returned (.string t)∧TurnOf s t∧Since w w':=by
 obtain⟨ba,hba⟩:∃ z,bits .and .i64 at_ 1048575=z:=⟨_,rfl⟩
 obtain⟨c,hc⟩:∃ z,bits .and .i64 wi 1023=z:=⟨_,rfl⟩
 have hba2:0≤ba∧ba≤1048575:=by rw[←hba];exact band_range at_ 1048575 (by decide)
 have hc2:0≤c∧c≤1023:=by rw[←hc];exact band_range wi 1023 (by decide)
 obtain⟨j,hj,hj31⟩:∃ j:Nat,c.tmod 31=j∧j<31:=⟨(c.tmod 31).toNat,by have:=Int.tmod_nonneg 31 hc2.1;omega,by have:=Int.tmod_lt_of_pos c (show (0:Int)<31 by decide);omega⟩
 obtain⟨x,hx⟩:∃ x,someL.getD j ByteArray.empty=x:=⟨_,rfl⟩
 have hxm:x∈someL:=by
  have hl:j<someL.length:=hj31
  rw[←hx,List.getD_eq_getElem?_getD,List.getElem?_eq_getElem hl];exact List.getElem_mem hl
 have hxs:x.size≤11:=some_le x hxm
 have HJ:=Lib.hid hj31
 have HX:=Lib.hid hx
 have HXM:=Lib.hid hxm
 have HBA:=Lib.hid hba2
 clear hx hxm ha hw hba2
 unfold In64 at *
 go_enter Tryz.func16,Tryz.ntmps16
 go_wp2_with fail
 refine (some_any w).mono ?_
 rintro e w1 ⟨rfl,ht,hs1⟩
 obtain⟨tb,htb⟩:∃ q,w.heap.size=q:=⟨_,rfl⟩
 rw[htb]at ht
 have HTB:=Lib.hid ht
 have HS1:=Lib.hid hs1
 rw[htb]
 clear ht hs1 htb
 go_wp2_with fail
 go_loopw [8,9] (fun no io wr=>∃ (n i:Nat),no=.int .i64 n∧io=.int .i64 i∧n≤i∧i≤s.size∧w1=wr) (fun _ io _=>s.size-(intOf io).toNat)
 case atStart=>exact⟨0,0,rfl,rfl,Nat.le_refl _,Nat.zero_le _,rfl⟩
 case round =>
  obtain⟨n,i,rfl,rfl,hn,hi,rfl⟩:=hrel
  by_cases hlt:i<s.size
  ·by_cases h32:s[i]=32
   ·have q32:((s[i].toNat:Int)==32)=true:=by rw[h32];rfl
    clear h32
    go_wp2
    go_roundw
    case rel=>exact⟨n+1,i+1,by go_num,by go_num,by omega,by omega,trivial⟩
    case measure=>simp[intOf];omega
   ·have q32:((s[i].toNat:Int)==32)=false:=byte_not0 h32 (by decide)
    clear h32
    by_cases h10:s[i]=10
    ·have q10:((s[i].toNat:Int)==10)=true:=by rw[h10];rfl
     clear h10
     go_wp2
     go_roundw
     case rel=>exact⟨n+1,i+1,by go_num,by go_num,by omega,by omega,trivial⟩
     case measure=>simp[intOf];omega
    ·have q10:((s[i].toNat:Int)==10)=false:=byte_not0 h10 (by decide)
     clear h10
     go_wp2
     go_roundw
     case rel=>exact⟨n,i+1,rfl,by go_num,by omega,by omega,trivial⟩
     case measure=>simp[intOf];omega
  ·obtain rfl:i=s.size:=by omega
   clear hlt
   by_cases hn0:n=0
   ·subst hn0
    go_wp2
    go_ret
    exact⟨_,rfl,.inl rfl,HS1.out⟩
   ·have hnz:((n:Int)==0)=false:=by rw[beq_eq_false_iff_ne];omega
    have hn1:0<n:=by omega
    obtain⟨k0,hk0,hk1⟩:∃ k:Nat,ba.tmod n=k∧k≤1048575:=⟨(ba.tmod n).toNat,by have:=Int.tmod_nonneg (n:Int) HBA.out.1;omega,by have h2:=Int.tmod_nonneg (n:Int) HBA.out.1;have:=Int.tmod_lt_of_pos ba (show (0:Int)<n by omega);have h3:=HBA.out.2;have h4:=tmod_le HBA.out.1 (show (0:Int)<n by omega);omega⟩
    clear hn0
    go_wp2_with fail
    go_loopw [10,11,12] (fun ko fo io wr=>∃ (k fr i:Nat),ko=.int .i64 k∧fo=.int .i64 fr∧io=.int .i64 i∧k≤1048575∧fr≤i∧i≤s.size∧w1=wr) (fun _ _ io _=>s.size-(intOf io).toNat)
    case atStart=>exact⟨k0,0,0,rfl,rfl,rfl,hk1,Nat.le_refl _,Nat.zero_le _,rfl⟩
    case round =>
     clear hk0 hk1
     obtain⟨k,fr,i,rfl,rfl,rfl,hk,hfi,hi,rfl⟩:=hrel
     by_cases hlt:i<s.size
     ·by_cases hsep:s[i]=32∨s[i]=10
      ·obtain⟨b1,b2,q32,q10,hbb⟩:∃ b1 b2,((s[i].toNat:Int)==32)=b1∧((s[i].toNat:Int)==10)=b2∧(b1=true∨b1=false∧b2=true):=⟨_,_,rfl,rfl,sep_cases hsep⟩
       have n32:((s[i].toNat:Int) != 32) = !b1:=by rw[←q32];rfl
       have n10:((s[i].toNat:Int) != 10) = !b2:=by rw[←q10];rfl
       clear hsep q32 q10
       by_cases hk0:k=0
       ·subst hk0
        obtain⟨y1,hy1⟩:∃ y,s.extract 0 fr=y:=⟨_,rfl⟩
        obtain⟨y2,hy2⟩:∃ y,s.extract i s.size=y:=⟨_,rfl⟩
        have HY1:=Lib.hid hy1
        have HY2:=Lib.hid hy2
        have HFI:=Lib.hid (And.intro hfi hlt)
        have h1:y1.size≤1000000:=by rw[←hy1,ByteArray.size_extract];omega
        have h2:y2.size≤1000000:=by rw[←hy2,ByteArray.size_extract];omega
        have h3:(y1++x).size≤1000011:=by rw[ByteArray.size_append];omega
        have hfs:fr≤s.size:=by omega
        have HBB:=Lib.hid hbb
        clear hbb
        rcases HBB.out with rfl|⟨rfl,rfl⟩<;>simp only[Bool.not_true,Bool.not_false]at n32 n10
        ·go_upto_region 17 with fail
         refine wp_region_list_facts rfl (by decide +kernel) (by decide +kernel)
          [Is (.string s),Is (.int .i64 (fr:Nat)),Is (.string y1),Is (.slice (some ⟨tb,0,none⟩) 31 31),Is (.int .i64 wi),Is (.int .i64 c),Is (.slice (some ⟨tb,0,none⟩) 31 31),Is (.int .i64 31),Is (.int .i64 (j:Nat)),Is (.pointer (some ⟨tb,j,none⟩)),Is (.string x),Is (.string (y1++x)),Is (.string s),Is (.int .i64 (i:Nat)),Is (.string y2),Is (.string (y1++x++y2)),Is (.string (y1++x++y2))]
          (by repeat (first | exact trivial | refine⟨Is.stable _,?_⟩ | refine⟨IsNums.stable _ _,?_⟩ | refine⟨IsRows.stable _ _,?_⟩)) ⟨?_,?_,?_,?_,?_,?_,?_,?_,?_,?_,?_,?_,?_,?_,?_,?_,?_,trivial⟩ ?_
         all_goals
          intro vs w7 hs hk
          simp only[putAll,Act.put,Knows,KnowsAll,nthF,Is,List.setIfInBounds_toArray,List.set_cons_zero,List.set_cons_succ,Nat.reduceAdd,List.length_cons,List.length_nil]at hk ⊢
          try simp only[hk]
         ·go_wp2
          exact⟨_,rfl,rfl,Since.refl _⟩
         ·go_wp2
          exact⟨_,rfl,rfl,Since.refl _⟩
         ·go_wp2
          exact⟨_,rfl,rfl,Since.refl _⟩
         ·go_wp2
          exact⟨_,rfl,rfl,Since.refl _⟩
         ·go_wp2
          exact⟨_,rfl,rfl,Since.refl _⟩
         ·go_wp2
          exact⟨_,rfl,rfl,Since.refl _⟩
         ·go_wp2
          exact⟨_,rfl,rfl,Since.refl _⟩
         ·go_wp2
          exact⟨_,rfl,rfl,Since.refl _⟩
         ·go_wp2
          exact⟨_,rfl,rfl,Since.refl _⟩
         ·go_wp2
          exact⟨_,rfl,rfl,Since.refl _⟩
         ·have z9:w7.cell? ⟨tb,j,none⟩=some (.string x):=by have h:=(HTB.out.keep hs).2 j HJ.out;rw[Nat.zero_add]at h;exact h.trans (congrArg (fun z=>some (Value.string z)) HX.out)
          have z8:=(HTB.out.keep hs).1
          go_wp2
          exact⟨_,rfl,rfl,Since.refl _⟩
         ·go_wp2
          exact⟨_,rfl,rfl,Since.refl _⟩
         ·go_wp2
          exact⟨_,rfl,rfl,Since.refl _⟩
         ·go_wp2
          exact⟨_,rfl,rfl,Since.refl _⟩
         ·go_wp2
          exact⟨_,rfl,rfl,Since.refl _⟩
         ·go_wp2
          exact⟨_,rfl,rfl,Since.refl _⟩
         ·go_wp2
          exact⟨_,rfl,rfl,Since.refl _⟩
         ·go_wp2
          go_ret
          exact⟨_,rfl,.inr ⟨fr,i,x,HFI.out.1,HFI.out.2,HXM.out,by rw[HY1.out,HY2.out]⟩,HS1.out.trans hs⟩
        ·go_upto_region 17 with fail
         refine wp_region_list_facts rfl (by decide +kernel) (by decide +kernel)
          [Is (.string s),Is (.int .i64 (fr:Nat)),Is (.string y1),Is (.slice (some ⟨tb,0,none⟩) 31 31),Is (.int .i64 wi),Is (.int .i64 c),Is (.slice (some ⟨tb,0,none⟩) 31 31),Is (.int .i64 31),Is (.int .i64 (j:Nat)),Is (.pointer (some ⟨tb,j,none⟩)),Is (.string x),Is (.string (y1++x)),Is (.string s),Is (.int .i64 (i:Nat)),Is (.string y2),Is (.string (y1++x++y2)),Is (.string (y1++x++y2))]
          (by repeat (first | exact trivial | refine⟨Is.stable _,?_⟩ | refine⟨IsNums.stable _ _,?_⟩ | refine⟨IsRows.stable _ _,?_⟩)) ⟨?_,?_,?_,?_,?_,?_,?_,?_,?_,?_,?_,?_,?_,?_,?_,?_,?_,trivial⟩ ?_
         all_goals
          intro vs w7 hs hk
          simp only[putAll,Act.put,Knows,KnowsAll,nthF,Is,List.setIfInBounds_toArray,List.set_cons_zero,List.set_cons_succ,Nat.reduceAdd,List.length_cons,List.length_nil]at hk ⊢
          try simp only[hk]
         ·go_wp2
          exact⟨_,rfl,rfl,Since.refl _⟩
         ·go_wp2
          exact⟨_,rfl,rfl,Since.refl _⟩
         ·go_wp2
          exact⟨_,rfl,rfl,Since.refl _⟩
         ·go_wp2
          exact⟨_,rfl,rfl,Since.refl _⟩
         ·go_wp2
          exact⟨_,rfl,rfl,Since.refl _⟩
         ·go_wp2
          exact⟨_,rfl,rfl,Since.refl _⟩
         ·go_wp2
          exact⟨_,rfl,rfl,Since.refl _⟩
         ·go_wp2
          exact⟨_,rfl,rfl,Since.refl _⟩
         ·go_wp2
          exact⟨_,rfl,rfl,Since.refl _⟩
         ·go_wp2
          exact⟨_,rfl,rfl,Since.refl _⟩
         ·have z9:w7.cell? ⟨tb,j,none⟩=some (.string x):=by have h:=(HTB.out.keep hs).2 j HJ.out;rw[Nat.zero_add]at h;exact h.trans (congrArg (fun z=>some (Value.string z)) HX.out)
          have z8:=(HTB.out.keep hs).1
          go_wp2
          exact⟨_,rfl,rfl,Since.refl _⟩
         ·go_wp2
          exact⟨_,rfl,rfl,Since.refl _⟩
         ·go_wp2
          exact⟨_,rfl,rfl,Since.refl _⟩
         ·go_wp2
          exact⟨_,rfl,rfl,Since.refl _⟩
         ·go_wp2
          exact⟨_,rfl,rfl,Since.refl _⟩
         ·go_wp2
          exact⟨_,rfl,rfl,Since.refl _⟩
         ·go_wp2
          exact⟨_,rfl,rfl,Since.refl _⟩
         ·go_wp2
          go_ret
          exact⟨_,rfl,.inr ⟨fr,i,x,HFI.out.1,HFI.out.2,HXM.out,by rw[HY1.out,HY2.out]⟩,HS1.out.trans hs⟩
       ·have hkz:((k:Int)==0)=false:=by rw[beq_eq_false_iff_ne];omega
        have hk9:0<k:=by omega
        clear hk0
        rcases hbb with rfl|⟨rfl,rfl⟩<;>simp only[Bool.not_true,Bool.not_false]at n32 n10
        ·go_wp2
         go_roundw
         case rel=>exact⟨k-1,i+1,i+1,by simp;omega,by go_num,by go_num,by omega,by omega,by omega,trivial⟩
         case measure=>simp[intOf];omega
        ·go_wp2
         go_roundw
         case rel=>exact⟨k-1,i+1,i+1,by simp;omega,by go_num,by go_num,by omega,by omega,by omega,trivial⟩
         case measure=>simp[intOf];omega
      ·have q32:((s[i].toNat:Int)==32)=false:=byte_not0 (fun e=>hsep (.inl e)) (by decide)
       have q10:((s[i].toNat:Int)==10)=false:=byte_not0 (fun e=>hsep (.inr e)) (by decide)
       have n32:((s[i].toNat:Int) != 32)=true:=by show (!((s[i].toNat:Int)==32))=true;rw[q32];rfl
       have n10:((s[i].toNat:Int) != 10)=true:=by show (!((s[i].toNat:Int)==10))=true;rw[q10];rfl
       clear hsep q32 q10
       go_wp2
       go_roundw
       case rel=>exact⟨k,fr,i+1,rfl,rfl,by go_num,hk,by omega,by omega,trivial⟩
       case measure=>simp[intOf];omega
     ·obtain rfl:i=s.size:=by omega
      clear hlt
      go_wp2
      go_ret
      exact⟨_,rfl,.inl rfl,HS1.out⟩
theorem blkS_end (k:Nat) (b:DBlk):∃ a,blkS k b=a++[10]:=by
 refine⟨[98,108,111,99,107]++(dS k++10::(b.phis.flatMap (fun p=>phiS p++[10])++(b.ins.flatMap (fun i=>insS i++[10])++termS b.term))),?_⟩
 unfold blkS bodyS
 simp only[List.append_assoc,List.cons_append]
theorem funcS_end (d:DFn):∃ a,funcS d=a++[10]:=by
 rcases Nat.eq_zero_or_pos d.blocks.length with h|h
 ·refine⟨[102,117,110,99]++dS d.params,?_⟩
  unfold funcS
  rw[h]
  simp[blksS]
 ·obtain⟨n,hn⟩:∃ n,d.blocks.length=n+1:=⟨d.blocks.length-1,by omega⟩
  have hb:d.blocks[n]? = some d.blocks[n]:=List.getElem?_eq_getElem (by omega)
  obtain⟨a,ha⟩:=blkS_end n d.blocks[n]
  refine⟨[102,117,110,99]++(dS d.params++10::(blksS d.blocks n++a)),?_⟩
  unfold funcS
  rw[hn,blks_next hb,ha]
  simp only[List.append_assoc,List.cons_append]
theorem extract_list (s:ByteArray) (i:Nat) (hi:i≤s.size):(s.extract i s.size).data.toList=s.data.toList.drop i:=by
 rw[ByteArray.data_extract,Array.toList_extract]
 have:s.data.toList.length=s.size:=Array.length_toList
 simp only[List.extract_eq_take_drop]
 rw[List.take_of_length_le]
 rw[List.length_drop];omega
theorem turn_end {s t:ByteArray} (h:TurnOf s t) (hs:∃ a,s.data.toList=a++[10]):∃ a,t.data.toList=a++[10]:=by
 obtain⟨a,ha⟩:=hs
 rcases h with rfl|⟨fr,i,x,h1,h2,h3,rfl⟩
 ·exact⟨a,ha⟩
 ·have hl:s.data.toList.length=s.size:=Array.length_toList
  rw[ha,List.length_append,List.length_singleton]at hl
  refine⟨(s.extract 0 fr++x).data.toList++a.drop i,?_⟩
  rw[ByteArray.data_append,Array.toList_append,extract_list s i (by omega),ha,List.drop_append_of_le_length (by omega),List.append_assoc]
def Txt (n:Nat) (t:ByteArray):Prop:=t.size≤36400+11*n∧∃ a,t.data.toList=a++[10]
theorem Txt.of {f : FnV} (h:MadeF f):Txt 0 ⟨(funcS f.d).toArray⟩:=⟨by rw[bs_size];exact made_len h,funcS_end f.d⟩
theorem Txt.turn {n : Nat} {s t:ByteArray} (h:Txt n s) (ht:TurnOf s t):Txt (n+1) t:=⟨by have:=h.1;have:=ht.size;omega,turn_end ht h.2⟩
def MadeIs (v:Value) (w:World):Prop:=∃ f,v=fv f∧FnIn w f∧MadeF f
theorem MadeIs.stable:Stable MadeIs:=fun v w w' ⟨f,h1,h2,h3⟩ s=>⟨f,h1,h2.keep s,h3⟩
def TxtIs (n:Nat) (v:Value) (_:World):Prop:=∃ t,v=.string t∧Txt n t
theorem TxtIs.stable (n:Nat):Stable (TxtIs n):=fun v w w' h s=>h
theorem fv_shape (f:FnV) (w:World) (h:FnIn w f):∃ p b a n c,f=⟨p,b,.slice a n c⟩:=by
 obtain⟨p,b,v⟩:=f
 obtain⟨a,c,e,_⟩:=RowIn.shape h
 exact⟨p,b,a,b.length,c,by rw[show v=.slice a b.length c from e]⟩
theorem cnt_le (l:Bs) (i:Nat):(l.take i).count 10+1≤i+1:=by
 have h1:=List.count_le_length (a:=(10:UInt8)) (l:=l.take i)
 rw[List.length_take]at h1;omega
theorem cnt_at (t:ByteArray) {i : Nat} (h:i<t.size):t.data.toList.take (i+1)=t.data.toList.take i++[t[i]]:=by
 have hl:i<t.data.toList.length:=by rw[Array.length_toList];exact h
 rw[List.take_add_one,List.getElem?_eq_getElem hl];rfl
theorem cnt_yes (t:ByteArray) {i : Nat} (h:i<t.size) (hc:t[i]=10):(t.data.toList.take (i+1)).count 10=(t.data.toList.take i).count 10+1:=by
 rw[cnt_at t h,List.count_append,hc];rfl
theorem cnt_no (t:ByteArray) {i : Nat} (h:i<t.size) (hc:t[i]≠10):(t.data.toList.take (i+1)).count 10=(t.data.toList.take i).count 10:=by
 rw[cnt_at t h,List.count_append,List.count_singleton,if_neg (by simpa using hc),Nat.add_zero]
set_option maxHeartbeats 8000000 in
set_option maxRecDepth 100000 in
theorem walk_first (lv:Value) (l:List Int) (q0 q1:Int) (b:ByteArray) (w:World) (hl:Ints w lv l) (hlq:∀ q,lv.ownBlock=some q→q<w.heap.size) (h0:In64 q0) (h1:In64 q1) (hb:b.size≤maxLen) (hL:LaidT w):Calls Tryz.prog 5 #[lv,.agg #[.int .i64 q0,.int .i64 q1],.string b] w fun e w'=>e=.returned (.bool true)∧Since w w':=by
 unfold maxLen at hb
 have HLV0:=Lib.hid hl
 have HLQ:=Lib.hid hlq
 have HL0:=Lib.hid hL
 have HQ0:=Lib.hid h0
 have HQ1:=Lib.hid h1
 clear hl hlq hL h0 h1
 go_enter Tryz.func5,Tryz.ntmps5
 go_upto_region 1 with fail
 obtain⟨qb,hqb⟩:∃ q,w.heap.size=q:=⟨_,rfl⟩
 obtain⟨w1,hw1⟩:∃ w1,w.alloc (.cells #[.int .i64 q0,.int .i64 q1] 33)=w1:=⟨_,rfl⟩
 have HS1:=Lib.hid (show Since w w1 from by rw[←hw1];exact (Since.refl w).alloc _)
 have HB1:=Lib.hid (show HeapIs w1 qb #[.int .i64 q0,.int .i64 q1] 33 from by rw[←hw1,←hqb];exact HeapIs.new w _ _)
 rw[hw1]
 try rw[hqb]
 clear hw1 hqb
 go_wp2_with fail
 refine (shown25_any w1 (HL0.out.keep HS1.out)).mono ?_
 rintro e w2 ⟨rfl,hs2⟩
 have HS2:=Lib.hid (HS1.out.trans hs2)
 have HB:=Lib.hid (HB1.out.keep hs2)
 have HLV:=Lib.hid (HLV0.out.keep HS2.out)
 have HL:=Lib.hid (HL0.out.keep HS2.out)
 clear hs2
 go_upto_region 2 with fail
 refine wp_region_list_facts rfl (by decide +kernel) (by decide +kernel)
  [Is lv,MadeIs,TxtIs 0,Is (.pointer (some ⟨qb,0,none⟩)),Is (.int .i64 q0),Is (.pointer (some ⟨qb,1,none⟩)),Is (.int .i64 q1),TxtIs 1,TxtIs 1]
  (by repeat (first | exact trivial | refine⟨Is.stable _,?_⟩ | refine⟨IsNums.stable _ _,?_⟩ | refine⟨IsRows.stable _ _,?_⟩ | refine⟨MadeIs.stable,?_⟩ | refine⟨TxtIs.stable _,?_⟩)) ⟨?_,?_,?_,?_,?_,?_,?_,?_,?_,trivial⟩ ?_
 all_goals
  intro vs w7 hs hk
  simp only[putAll,Act.put,Knows,KnowsAll,nthF,Is,List.setIfInBounds_toArray,List.set_cons_zero,List.set_cons_succ,Nat.reduceAdd,List.length_cons,List.length_nil]at hk ⊢
  try simp only[hk]
 ·go_wp2
  exact⟨_,rfl,rfl,Since.refl _⟩
 ·go_wp2_with fail
  refine (made25_any lv l w7 (HLV.out.keep hs) (fun q hq=>Nat.lt_of_lt_of_le (HLQ.out q hq) (HS2.out.trans hs).size)).mono ?_
  rintro e wN ⟨f,rfl,hf,hm,hsN⟩
  obtain⟨fp,fb,fa,fn,fc,rfl⟩:=fv_shape f wN hf
  go_wp2
  exact⟨_,rfl,⟨_,rfl,hf,hm⟩,hsN⟩
 ·obtain⟨f,hv,hf,hm⟩:=hk.1
  obtain⟨fp,fb,fa,fn,fc,rfl⟩:=fv_shape f w7 hf
  simp only[hv]
  unfold fv
  dsimp only
  have HF:=Lib.hid hf
  have HM:=Lib.hid hm
  clear hk hv hf hm
  go_wp2_with fail
  refine (rfunc25_any ⟨fp,fb,.slice fa fn fc⟩ w7 HF.out (made_r HM.out) (Nat.le_trans (made_len HM.out) (by decide))).mono ?_
  rintro e wN ⟨rfl,hsN⟩
  go_wp2
  exact⟨_,rfl,⟨_,rfl,Txt.of HM.out⟩,hsN⟩
 ·go_wp2
  exact⟨_,rfl,rfl,Since.refl _⟩
 ·have hb:=HB.out.keep hs
  have z9:=hb.cell 0
  have z7:=hb.lt
  clear hb
  go_wp2
  exact⟨_,rfl,rfl,Since.refl _⟩
 ·go_wp2
  exact⟨_,rfl,rfl,Since.refl _⟩
 ·have hb:=HB.out.keep hs
  have z9:=hb.cell 1
  have z7:=hb.lt
  clear hb
  go_wp2
  exact⟨_,rfl,rfl,Since.refl _⟩
 ·obtain⟨t,hv,ht⟩:=hk.1
  simp only[hv]
  have HT:=Lib.hid ht
  clear hk hv ht
  go_wp2_with fail
  refine (turned_any t q0 q1 w7 (by have:=HT.out.1;omega) HQ0.out HQ1.out).mono ?_
  rintro e wN ⟨t2,rfl,ht2,hsN⟩
  have HT2:=Lib.hid (HT.out.turn ht2)
  clear ht2
  go_wp2
  exact⟨_,rfl,⟨_,rfl,HT2.out⟩,hsN⟩
 ·obtain⟨t,hv,ht⟩:=hk.1
  simp only[hv]
  have HT:=Lib.hid ht
  clear hk hv ht
  go_wp2
  exact⟨_,rfl,⟨_,rfl,HT.out⟩,Since.refl _⟩
 ·obtain⟨t,hv,ht⟩:=(show TxtIs 1 (vs 8) w7 from hk.2.2.2.2.2.2.2.2.1)
  simp only[hv]
  obtain⟨a,ha⟩:=ht.2
  have HTS:=Lib.hid ht.1
  have HA:=Lib.hid ha
  have HS7:=Lib.hid (HS2.out.trans hs)
  have hsz:t.size≤40000:=by have:=ht.1;omega
  have HL7:=Lib.hid (HL.out.keep hs)
  clear hk hv ht ha hs
  go_wp2_with fail
  refine (parse_any t w7 (by omega) HL7.out).mono ?_
  rintro e w8 ⟨f1,line1,er1,rfl,hf1,hd1,hs8⟩
  obtain⟨p1,b1,a1,n1,c1,rfl⟩:=fv_shape f1 w8 hf1
  have HD1:=Lib.hid hd1
  have HS8:=Lib.hid (HS7.out.trans hs8)
  clear hf1 hd1 hs8
  unfold fv
  dsimp only
  go_upto_region 4 with fail
  obtain⟨w9,hw9⟩:∃ w9,w8.alloc (.cells #[.int .i64 p1,.slice a1 n1 c1] 24)=w9:=⟨_,rfl⟩
  have HS9:=Lib.hid (show Since w w9 from by rw[←hw9];exact HS8.out.trans ((Since.refl w8).alloc _))
  rw[hw9]
  clear hw9
  go_wp2_with fail
  go_loopw [12,13] (fun lo io wr=>∃ (n i:Nat),lo=.int .i64 n∧io=.int .i64 i∧n=(t.data.toList.take i).count 10+1∧i≤t.size∧w9=wr) (fun _ io _=>t.size-(intOf io).toNat)
  case atStart=>exact⟨1,0,rfl,rfl,rfl,Nat.zero_le _,rfl⟩
  case round =>
   obtain⟨n,i,rfl,rfl,hn,hi,rfl⟩:=hrel
   have hni:n≤40001:=by have:=cnt_le t.data.toList i;omega
   have HN:=Lib.hid hn
   clear hn
   by_cases hlt:i<t.size
   ·by_cases h10:t[i]=10
    ·have q10:((t[i].toNat:Int)==10)=true:=by rw[h10];rfl
     have HN2:=Lib.hid (show n+1=(t.data.toList.take (i+1)).count 10+1 from by rw[cnt_yes t hlt h10,HN.out])
     clear h10
     go_wp2
     go_roundw
     case rel=>exact⟨n+1,i+1,by go_num,by go_num,HN2.out,by omega,trivial⟩
     case measure=>simp[intOf];omega
    ·have q10:((t[i].toNat:Int)==10)=false:=byte_not0 h10 (by decide)
     have HN2:=Lib.hid (show n=(t.data.toList.take (i+1)).count 10+1 from by rw[cnt_no t hlt h10,HN.out])
     clear h10
     go_wp2
     go_roundw
     case rel=>exact⟨n,i+1,rfl,by go_num,HN2.out,by omega,trivial⟩
     case measure=>simp[intOf];omega
   ·obtain rfl:i=t.size:=by omega
    clear hlt hi
    obtain⟨k,hk,hk6⟩:∃ k,min b.size 200=k∧k≤b.size∧k≤200:=⟨_,rfl,by omega,by omega⟩
    have hki:min (b.size:Int) 200=k:=by omega
    clear hk
    obtain⟨x,hx⟩:∃ x,b.extract 0 k=x:=⟨_,rfl⟩
    have hxs:x.size≤200:=by rw[←hx,ByteArray.size_extract];omega
    have HNN:=Lib.hid (show n=t.data.toList.count 10+1 from by rw[HN.out,List.take_of_length_le (by rw[Array.length_toList];exact Nat.le_refl _)])
    have HLS:=Lib.hid (first_law a x.data.toList)
    have HTL:=Lib.hid (fun (L:ByteArray) (hL:L.data.toList=nothingS)=>show (t++L++x:ByteArray).data.toList=a++[10]++(nothingS++x.data.toList) from by
     rw[ByteArray.data_append,ByteArray.data_append,Array.toList_append,Array.toList_append,HA.out,hL,List.append_assoc])
    go_wp2_with fail
    refine (parse_any _ w9 (by simp only[ByteArray.size_append];exact Nat.le_trans (Nat.add_le_add (Nat.add_le_add hsz (Nat.le_refl _)) hxs) (by decide)) (HL0.out.keep HS9.out)).mono ?_
    rintro e w10 ⟨f2,line2,er2,rfl,hf2,hd2,hs10⟩
    obtain⟨p2,b2,a2,n2,c2,rfl⟩:=fv_shape f2 w10 hf2
    rw[HTL.out _ (by kernel_rfl)]at hd2
    have hl1:line1=(parseS (a++[10])).line:=by have:=congrArg PRes.line HD1.out;rw[HA.out]at this;exact this
    have he1:er1=(parseS (a++[10])).e:=by have:=congrArg PRes.e HD1.out;rw[HA.out]at this;exact this
    have hl2:line2=(parseS (a++[10]++(nothingS++x.data.toList))).line:=by have:=congrArg PRes.line hd2;exact this
    have he2:er2=(parseS (a++[10]++(nothingS++x.data.toList))).e:=by have:=congrArg PRes.e hd2;exact this
    have hnn:((n:Nat):Int)=(((a++[10]).count 10+1:Nat):Int):=by rw[HNN.out,HA.out]
    have hlw:=HLS.out
    rw[←hl1,←he1,←hl2,←he2,←hnn]at hlw
    have HS10:=Lib.hid (HS9.out.trans hs10)
    clear hf2 hd2 hs10 hl1 he1 hl2 he2 hnn
    unfold fv
    dsimp only
    go_upto_region 11 with fail
    obtain⟨w11,hw11⟩:∃ w11,w10.alloc (.cells #[.int .i64 p2,.slice a2 n2 c2] 24)=w11:=⟨_,rfl⟩
    have HS11:=Lib.hid (show Since w w11 from by rw[←hw11];exact HS10.out.trans ((Since.refl w10).alloc _))
    rw[hw11]
    clear hw11 hxs hki hx
    rcases hlw with ⟨g1,g2,rfl,rfl⟩|⟨g1,rfl,rfl⟩
    ·have n1:(er2 != 0)=true:=bne_iff_ne.2 g1
     have n2:decide (line2<(n:Int))=true:=decide_eq_true g2
     clear g1 g2
     go_wp2
     go_ret
     exact⟨rfl,HS11.out⟩
    ·by_cases h0:er1=0
     ·have n1:(er1 != 0)=false:=by rw[h0];rfl
      clear g1 h0
      go_wp2
      go_ret
      exact⟨rfl,HS11.out⟩
     ·have n1:(er1 != 0)=true:=bne_iff_ne.2 h0
      have n2:decide (line1<(n:Int))=false:=decide_eq_false (by have:=g1.resolve_left h0;omega)
      clear g1 h0
      go_wp2
      go_ret
      exact⟨rfl,HS11.out⟩
end Go.Proofs.YtmhojfpidedjeaaGreatDoor
