import Derived.Test.YtmhojfpidedjeaaGreatDoorTp45
namespace Go.Proofs.YtmhojfpidedjeaaGreatDoor
open Go.RowKit Go.Lib
set_option linter.unusedVariables false
set_option maxHeartbeats 8000000
set_option maxRecDepth 100000
def someL:List ByteArray:=[⟨#[]⟩,⟨#[120]⟩,⟨#[48]⟩,⟨#[49]⟩,⟨#[45,49]⟩,⟨#[48,48,55]⟩,⟨#[57,57,57,57,57,57,57,57,57,57,57]⟩,⟨#[102,117,110,99]⟩,⟨#[98,108,111,99,107]⟩,⟨#[112,104,105]⟩,⟨#[97,100,100]⟩,⟨#[99,111,110,115,116]⟩,⟨#[99,97,108,108]⟩,⟨#[115,116,111,114,101]⟩,⟨#[108,111,97,100]⟩,⟨#[109,117,108,119]⟩,⟨#[106,117,109,112]⟩,⟨#[98,114,97,110,99,104]⟩,⟨#[115,119,105,116,99,104]⟩,⟨#[114,101,116]⟩,⟨#[116,114,97,112]⟩,⟨#[48,58,49]⟩,⟨#[49,58]⟩,⟨#[49,58,50,58,51]⟩,⟨#[58]⟩,⟨#[35]⟩,⟨#[10]⟩,⟨#[116,105,108,101]⟩,⟨#[116,105,108,101,32,108,105,32,49]⟩,⟨#[108,105,119]⟩,⟨#[63]⟩]
theorem ZeW (w:World):Calls Tryz.prog 36 #[] w (Jk 31 someL w):=by
 go_enter Tryz.func36,Tryz.ntmps36
 go_wp2
 go_ret
 exact⟨rfl,Jm w someL _,(Since.refl _).alloc _⟩
def Jh (s t:ByteArray):Prop:=t=s∨∃ fr i x,fr≤i∧i<s.size∧x∈someL∧t=s.extract 0 fr++x++s.extract i s.size
theorem ZcA:∀ x∈someL,x.size≤11:=by decide
theorem Jh.size {s t:ByteArray} (h:Jh s t):t.size≤s.size+11:=by
 rcases h with rfl|⟨fr,i,x,h1,h2,h3,rfl⟩
 ·omega
 ·have:=ZcA x h3;rw[ByteArray.size_append,ByteArray.size_append,ByteArray.size_extract,ByteArray.size_extract];omega
theorem QM (a:Int) (m:Nat) (hm:m<4611686018427387904):0≤bits .and .i64 a m∧bits .and .i64 a m≤m:=by
 have h:bits .and .i64 a m=IntKind.i64.wrap ((BitVec.ofInt 64 a &&& BitVec.ofInt 64 m).toNat:Int):=rfl;have h1:(BitVec.ofInt 64 (m:Int)).toNat=m:=by rw[BitVec.toNat_ofInt];omega
 have h2:(BitVec.ofInt 64 a &&& BitVec.ofInt 64 m).toNat≤m:=by
  rw[BitVec.toNat_and,h1];exact Nat.and_le_right
 rw[h,IntWalk.i64_in _ (by omega)];omega
theorem V1 {x y:UInt8} {z : Int} (h:x≠y) (hz:(y.toNat:Int)=z):((x.toNat:Int)==z)=false:=by
 rw[beq_eq_false_iff_ne];intro e;apply h
 apply UInt8.toNat.inj
 omega
theorem ZdZ {x : UInt8} (h:x=32∨x=10):((x.toNat:Int)==32)=true∨((x.toNat:Int)==32)=false∧((x.toNat:Int)==10)=true:=by
 rcases h with rfl|rfl
 ·exact .inl (by decide)
 ·exact .inr ⟨by decide,by decide⟩
theorem ZfP {a n:Int} (h:0≤a) (hn:0<n):a.tmod n≤a:=by
 rw[Int.tmod_eq_emod_of_nonneg h];rcases Int.lt_or_le a n with h1|h1
 ·rw[Int.emod_eq_of_lt h h1];exact Int.le_refl _
 ·have:=Int.emod_lt_of_pos a hn;omega
theorem Qc (s:ByteArray) (at_ wi:Int) (w:World) (hs:s.size≤1000000) (ha:ZO at_) (hw:ZO wi):Calls Tryz.prog 16 #[.string s,.int .i64 at_,.int .i64 wi] w fun e w'=>∃ t,e=.returned (.string t)∧Jh s t∧Since w w':=by
 obtain⟨ba,hG⟩:∃ z,bits .and .i64 at_ 1048575=z:=⟨_,rfl⟩
 obtain⟨c,hc⟩:∃ z,bits .and .i64 wi 1023=z:=⟨_,rfl⟩
 have hr:0≤ba∧ba≤1048575:=by rw[←hG];exact QM at_ 1048575 (by decide)
 have hF:0≤c∧c≤1023:=by rw[←hc];exact QM wi 1023 (by decide)
 obtain⟨j,hj,hp⟩:∃ j:Nat,c.tmod 31=j∧j<31:=⟨(c.tmod 31).toNat,by have:=Int.tmod_nonneg 31 hF.1;omega,by have:=Int.tmod_lt_of_pos c (show (0:Int)<31 by decide);omega⟩
 obtain⟨x,hx⟩:∃ x,someL.getD j ByteArray.empty=x:=⟨_,rfl⟩
 have hm:x∈someL:=by
  have hl:j<someL.length:=hp;rw[←hx,List.getD_eq_getElem?_getD,List.getElem?_eq_getElem hl];exact List.getElem_mem hl
 have hL:x.size≤11:=ZcA x hm;have HJ:=hid hp;have HX:=hid hx;have hJ:=hid hm;have hh:=hid hr;clear hx hm ha hw hr;unfold ZO at *;go_enter Tryz.func16,Tryz.ntmps16
 go_wp2_with fail
 refine (ZeW w).mono ?_;rintro e w1 ⟨rfl,ht,hz⟩;obtain⟨tb,ho⟩:∃ q,w.heap.size=q:=⟨_,rfl⟩
 rw[ho]at ht;have hC:=hid ht;have hu:=hid hz;rw[ho];clear ht hz ho;go_wp2_with fail
 go_loopw [8,9] (fun no io wr=>∃ (n i:Nat),no=.int .i64 n∧io=.int .i64 i∧n≤i∧i≤s.size∧w1=wr) (fun _ io _=>s.size-(intOf io).toNat)
 case atStart=>exact⟨0,0,rfl,rfl,Nat.le_refl _,Nat.zero_le _,rfl⟩
 case round =>
  obtain⟨n,i,rfl,rfl,hn,hi,rfl⟩:=hrel;by_cases hd:i<s.size
  ·by_cases hf:s[i]=32
   ·have q32:((s[i].toNat:Int)==32)=true:=by rw[hf];rfl
    clear hf;go_wp2
    go_roundw
    case rel=>exact⟨n+1,i+1,by go_num,by go_num,by omega,by omega,trivial⟩
    case measure=>simp[intOf];omega
   ·have q32:((s[i].toNat:Int)==32)=false:=V1 hf (by decide);clear hf;by_cases hg:s[i]=10
    ·have q10:((s[i].toNat:Int)==10)=true:=by rw[hg];rfl
     clear hg;go_wp2
     go_roundw
     case rel=>exact⟨n+1,i+1,by go_num,by go_num,by omega,by omega,trivial⟩
     case measure=>simp[intOf];omega
    ·have q10:((s[i].toNat:Int)==10)=false:=V1 hg (by decide);clear hg;go_wp2
     go_roundw
     case rel=>exact⟨n,i+1,rfl,by go_num,by omega,by omega,trivial⟩
     case measure=>simp[intOf];omega
  ·obtain rfl:i=s.size:=by omega
   clear hd;by_cases hA:n=0
   ·subst hA;go_wp2
    go_ret
    exact⟨_,rfl,.inl rfl,hu.out⟩
   ·have hM:((n:Int)==0)=false:=by rw[beq_eq_false_iff_ne];omega
    have hN:0<n:=by omega
    obtain⟨k0,he,hB⟩:∃ k:Nat,ba.tmod n=k∧k≤1048575:=⟨(ba.tmod n).toNat,by have:=Int.tmod_nonneg (n:Int) hh.out.1;omega,by have h2:=Int.tmod_nonneg (n:Int) hh.out.1;have:=Int.tmod_lt_of_pos ba (show (0:Int)<n by omega);have h3:=hh.out.2;have h4:=ZfP hh.out.1 (show (0:Int)<n by omega);omega⟩
    clear hA;go_wp2_with fail
    go_loopw [10,11,12] (fun ko fo io wr=>∃ (k fr i:Nat),ko=.int .i64 k∧fo=.int .i64 fr∧io=.int .i64 i∧k≤1048575∧fr≤i∧i≤s.size∧w1=wr) (fun _ _ io _=>s.size-(intOf io).toNat)
    case atStart=>exact⟨k0,0,0,rfl,rfl,rfl,hB,Nat.le_refl _,Nat.zero_le _,rfl⟩
    case round =>
     clear he hB;obtain⟨k,fr,i,rfl,rfl,rfl,hk,hE,hi,rfl⟩:=hrel;by_cases hd:i<s.size
     ·by_cases hb:s[i]=32∨s[i]=10
      ·obtain⟨b1,b2,q32,q10,hq⟩:∃ b1 b2,((s[i].toNat:Int)==32)=b1∧((s[i].toNat:Int)==10)=b2∧(b1=true∨b1=false∧b2=true):=⟨_,_,rfl,rfl,ZdZ hb⟩
       have n32:((s[i].toNat:Int) != 32) = !b1:=by rw[←q32];rfl
       have n10:((s[i].toNat:Int) != 10) = !b2:=by rw[←q10];rfl
       clear hb q32 q10;by_cases he:k=0
       ·subst he;obtain⟨y1,hy⟩:∃ y,s.extract 0 fr=y:=⟨_,rfl⟩
        obtain⟨y2,hv⟩:∃ y,s.extract i s.size=y:=⟨_,rfl⟩
        have hI:=hid hy;have hH:=hid hv;have hD:=hid (And.intro hE hd);have h1:y1.size≤1000000:=by rw[←hy,ByteArray.size_extract];omega
        have h2:y2.size≤1000000:=by rw[←hv,ByteArray.size_extract];omega
        have h3:(y1++x).size≤1000011:=by rw[ByteArray.size_append];omega
        have hQ:fr≤s.size:=by omega
        have hK:=hid hq;clear hq;rcases hK.out with rfl|⟨rfl,rfl⟩<;>simp only[Bool.not_true,Bool.not_false]at n32 n10
        iterate 2
         ·go_upto_region 17 with fail
          refine ZG rfl (by decide +kernel) (by decide +kernel)
           [Is (.string s),Is (.int .i64 (fr:Nat)),Is (.string y1),Is (.slice (some ⟨tb,0,none⟩) 31 31),Is (.int .i64 wi),Is (.int .i64 c),Is (.slice (some ⟨tb,0,none⟩) 31 31),Is (.int .i64 31),Is (.int .i64 (j:Nat)),Is (.pointer (some ⟨tb,j,none⟩)),Is (.string x),Is (.string (y1++x)),Is (.string s),Is (.int .i64 (i:Nat)),Is (.string y2),Is (.string (y1++x++y2)),Is (.string (y1++x++y2))]
           (by repeat (first | exact trivial | refine⟨Is.stable _,?_⟩ | refine⟨ZV.stable _ _,?_⟩ | refine⟨IsRows.stable _ _,?_⟩)) ⟨?_,?_,?_,?_,?_,?_,?_,?_,?_,?_,?_,?_,?_,?_,?_,?_,?_,trivial⟩ ?_
          all_goals
           intro vs w7 hs hk;simp only[putAll,Act.put,Zh,Zc,Zd,Is,List.setIfInBounds_toArray,List.set_cons_zero,List.set_cons_succ,Nat.reduceAdd,List.length_cons,List.length_nil]at hk ⊢;try simp only[hk]
          iterate 10
           ·go_wp2
            exact⟨_,rfl,rfl,.refl _⟩
          ·have z9:w7.cell? ⟨tb,j,none⟩=some (.string x):=by have h:=(hC.out.keep hs).2 j HJ.out;rw[Nat.zero_add]at h;exact h.trans (congrArg (fun z=>some (Value.string z)) HX.out)
           have z8:=(hC.out.keep hs).1;go_wp2
           exact⟨_,rfl,rfl,.refl _⟩
          iterate 6
           ·go_wp2
            exact⟨_,rfl,rfl,.refl _⟩
          ·go_wp2
           go_ret
           exact⟨_,rfl,.inr ⟨fr,i,x,hD.out.1,hD.out.2,hJ.out,by rw[hI.out,hH.out]⟩,hu.out.trans hs⟩
       ·have hO:((k:Int)==0)=false:=by rw[beq_eq_false_iff_ne];omega
        have hP:0<k:=by omega
        clear he;rcases hq with rfl|⟨rfl,rfl⟩<;>simp only[Bool.not_true,Bool.not_false]at n32 n10
        iterate 2
         ·go_wp2
          go_roundw
          case rel=>exact⟨k-1,i+1,i+1,by simp;omega,by go_num,by go_num,by omega,by omega,by omega,trivial⟩
          case measure=>simp[intOf];omega
      ·have q32:((s[i].toNat:Int)==32)=false:=V1 (fun e=>hb (.inl e)) (by decide)
       have q10:((s[i].toNat:Int)==10)=false:=V1 (fun e=>hb (.inr e)) (by decide)
       have n32:((s[i].toNat:Int) != 32)=true:=by show (!((s[i].toNat:Int)==32))=true;rw[q32];rfl
       have n10:((s[i].toNat:Int) != 10)=true:=by show (!((s[i].toNat:Int)==10))=true;rw[q10];rfl
       clear hb q32 q10;go_wp2
       go_roundw
       case rel=>exact⟨k,fr,i+1,rfl,rfl,by go_num,hk,by omega,by omega,trivial⟩
       case measure=>simp[intOf];omega
     ·obtain rfl:i=s.size:=by omega
      clear hd;go_wp2
      go_ret
      exact⟨_,rfl,.inl rfl,hu.out⟩
theorem Zfy (k:Nat) (b:Y1):∃ a,V6 k b=a++[10]:=by
 refine⟨[98,108,111,99,107]++(dS k++10::(b.phis.flatMap (fun p=>Jr p++[10])++(b.ins.flatMap (fun i=>ZM i++[10])++Yi b.term))),?_⟩;unfold V6 QL;simp only[List.append_assoc,List.cons_append]
theorem Zet (d:DFn):∃ a,XP d=a++[10]:=by
 rcases Nat.eq_zero_or_pos d.blocks.length with h|h
 ·refine⟨[102,117,110,99]++dS d.params,?_⟩;unfold XP;rw[h];simp[blksS]
 ·obtain⟨n,hn⟩:∃ n,d.blocks.length=n+1:=⟨d.blocks.length-1,by omega⟩
  have hb:d.blocks[n]? = some d.blocks[n]:=List.getElem?_eq_getElem (by omega);obtain⟨a,ha⟩:=Zfy n d.blocks[n];refine⟨[102,117,110,99]++(dS d.params++10::(blksS d.blocks n++a)),?_⟩;unfold XP;rw[hn,V3 hb,ha];simp only[List.append_assoc,List.cons_append]
theorem ZbS (s:ByteArray) (i:Nat) (hi:i≤s.size):(s.extract i s.size).data.toList=s.data.toList.drop i:=by
 rw[ByteArray.data_extract,Array.toList_extract];have:s.data.toList.length=s.size:=Array.length_toList;simp only[List.extract_eq_take_drop];rw[List.take_of_length_le];rw[List.length_drop];omega
theorem ZeN {s t:ByteArray} (h:Jh s t) (hs:∃ a,s.data.toList=a++[10]):∃ a,t.data.toList=a++[10]:=by
 obtain⟨a,ha⟩:=hs;rcases h with rfl|⟨fr,i,x,h1,h2,h3,rfl⟩
 ·exact⟨a,ha⟩
 ·have hl:s.data.toList.length=s.size:=Array.length_toList;rw[ha,List.length_append,List.length_singleton]at hl;refine⟨(s.extract 0 fr++x).data.toList++a.drop i,?_⟩;rw[ByteArray.data_append,Array.toList_append,ZbS s i (by omega),ha,List.drop_append_of_le_length (by omega),List.append_assoc]
def Txt (n:Nat) (t:ByteArray):Prop:=t.size≤36400+11*n∧∃ a,t.data.toList=a++[10]
theorem Txt.of {f : FnV} (h:MadeF f):Txt 0 ⟨(XP f.d).toArray⟩:=⟨by rw[Zu];exact ZbK h,Zet f.d⟩
theorem Txt.turn {n : Nat} {s t:ByteArray} (h:Txt n s) (ht:Jh s t):Txt (n+1) t:=⟨by have:=h.1;have:=ht.size;omega,ZeN ht h.2⟩
def QQ (n:Nat) (v:Value) (_:World):Prop:=∃ t,v=.string t∧Txt n t
theorem QQ.stable (n:Nat):Z7 (QQ n):=fun v w w' h s=>h
theorem Zfr (f:FnV) (w:World) (h:FnIn w f):∃ p b a n c,f=⟨p,b,.slice a n c⟩:=by
 obtain⟨p,b,v⟩:=f;obtain⟨a,c,e,_⟩:=RowIn.shape h;exact⟨p,b,a,b.length,c,by rw[show v=.slice a b.length c from e]⟩
abbrev Kd (w:World) (v:Value) (l:List (Int × Int)):Prop:=RowIn prcells 2 (fun _ y=>ZO y.1∧ZO y.2) w v l
theorem Kd.keep {w w':World} {v : Value} {l : List (Int × Int)} (h:Kd w v l) (s:Since w w'):Kd w' v l:=RowIn.keep (fun _ _ _ h _=>h) h s
end Go.Proofs.YtmhojfpidedjeaaGreatDoor
