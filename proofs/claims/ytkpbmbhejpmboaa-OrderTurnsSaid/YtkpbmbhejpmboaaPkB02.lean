/- phys.within, bits, imm, shape. phys.Ins. mach.Needs, phys.Needs, ways, End. Rows of words that are written in place; what may turn; mach.get, interp.Load, interp.Store, and the closure that sets a register. mach.Do. -/
import Derived.Test.YtkpbmbhejpmboaaPkB00
import Derived.Test.YtkpbmbhejpmboaaPkB01
import Derived.WalkSpells
import Derived.WalkLawsBesides
namespace Go.Proofs.Ytkpbmbhejpmboaa
open Go.RowKit
set_option linter.unusedVariables false
def NumP (x:Int) (w:World) (e:Ending) (w':World):Prop:=e=.returned (.int .i64 x)∧Since w w'
def TellsQ (p:Bool) (w:World) (e:Ending) (w':World):Prop:=e=.returned (.bool p)∧w=w'
set_option maxHeartbeats 400000 in
set_option maxRecDepth 100000 in
theorem within_any (n l h:Int) (w:World):Calls Try.prog 42 #[.int .i64 n,.int .i64 l,.int .i64 h] w (TellsQ (decide (l≤n)&&decide (n≤h)) w):=by
 by_cases h1:l≤n
 ·by_cases h2:n≤h
  ·rw[decide_eq_true h1,decide_eq_true h2]
   go_enter Try.func42,Try.ntmps42
   go_wp2
   go_ret
   exact⟨rfl,rfl⟩
  ·rw[decide_eq_true h1,decide_eq_false h2]
   go_enter Try.func42,Try.ntmps42
   go_wp2
   go_ret
   exact⟨rfl,rfl⟩
 ·rw[decide_eq_false h1,Bool.false_and]
  go_enter Try.func42,Try.ntmps42
  go_wp2
  go_ret
  exact⟨rfl,rfl⟩
set_option maxHeartbeats 400000 in
set_option maxRecDepth 100000 in
theorem bits_16 (n:Int) (w:World) (h : -2147483648≤n) (h2:n≤2147483647):Calls Try.prog 86 #[.int .i32 n,.int .i64 16] w (TellsQ (decide (-32768≤n)&&decide (n≤32767)) w):=by
 by_cases h1 : -32768≤n
 ·by_cases h2:n<32768
  ·rw[decide_eq_true h1,decide_eq_true (show n≤32767 by omega)]
   go_enter Try.func86,Try.ntmps86
   go_wp2
   go_ret
   exact⟨rfl,rfl⟩
  ·rw[decide_eq_true h1,decide_eq_false (show ¬ n≤32767 by omega)]
   go_enter Try.func86,Try.ntmps86
   go_wp2
   go_ret
   exact⟨rfl,rfl⟩
 ·rw[decide_eq_false h1,Bool.false_and]
  go_enter Try.func86,Try.ntmps86
  go_wp2
  go_ret
  exact⟨rfl,rfl⟩
set_option maxHeartbeats 400000 in
set_option maxRecDepth 100000 in
theorem bits_8 (n:Int) (w:World) (h : -2147483648≤n) (h2:n≤2147483647):Calls Try.prog 86 #[.int .i32 n,.int .i64 8] w (TellsQ (decide (-128≤n)&&decide (n≤127)) w):=by
 by_cases h1 : -128≤n
 ·by_cases h2:n<128
  ·rw[decide_eq_true h1,decide_eq_true (show n≤127 by omega)]
   go_enter Try.func86,Try.ntmps86
   go_wp2
   go_ret
   exact⟨rfl,rfl⟩
  ·rw[decide_eq_true h1,decide_eq_false (show ¬ n≤127 by omega)]
   go_enter Try.func86,Try.ntmps86
   go_wp2
   go_ret
   exact⟨rfl,rfl⟩
 ·rw[decide_eq_false h1,Bool.false_and]
  go_enter Try.func86,Try.ntmps86
  go_wp2
  go_ret
  exact⟨rfl,rfl⟩
set_option maxHeartbeats 1000000 in
set_option maxRecDepth 100000 in
theorem imm_any (m:Mach) (av:Value) (w:World) (h : -2147483648≤m.imm) (h2:m.imm≤2147483647):Calls Try.prog 57 #[mv m av] w (TellsS (immB m) w):=by
 obtain⟨op,d,e,a,b,c,imm,args⟩:=m
 dsimp only at h h2
 unfold mv immB
 dsimp only
 have B16:=Lib.hid (fun w=>bits_16 imm w h h2)
 have B8:=Lib.hid (fun w=>bits_8 imm w h h2)
 have W1:=Lib.hid (fun w=>within_any imm 0 31 w)
 have W2:=Lib.hid (fun w=>within_any imm 0 255 w)
 by_cases g3:op=3
 ·subst g3
  rw[if_pos rfl]
  go_enter Try.func57,Try.ntmps57
  go_wp2_with fail
  refine (B16.out _).mono ?_
  rintro e w1 ⟨rfl,rfl⟩
  go_wp2
  go_ret
  exact⟨rfl,(Since.refl _).alloc _⟩
 rw[if_neg g3]
 by_cases g18:op=18
 ·subst g18
  rw[if_pos (by decide)]
  go_enter Try.func57,Try.ntmps57
  go_wp2_with fail
  refine (B8.out _).mono ?_
  rintro e w1 ⟨rfl,rfl⟩
  go_wp2
  go_ret
  exact⟨rfl,(Since.refl _).alloc _⟩
 by_cases g19:op=19
 ·subst g19
  rw[if_pos (by decide)]
  go_enter Try.func57,Try.ntmps57
  go_wp2_with fail
  refine (B8.out _).mono ?_
  rintro e w1 ⟨rfl,rfl⟩
  go_wp2
  go_ret
  exact⟨rfl,(Since.refl _).alloc _⟩
 rw[if_neg (by omega)]
 by_cases g20:op=20∨op=21∨op=22
 ·rw[if_pos g20]
  rcases g20 with rfl|rfl|rfl
  all_goals
   go_enter Try.func57,Try.ntmps57
   go_wp2_with fail
   refine (W1.out _).mono ?_
   rintro e w1 ⟨rfl,rfl⟩
   go_wp2
   go_ret
   exact⟨rfl,(Since.refl _).alloc _⟩
 rw[if_neg g20]
 by_cases g24:op=24∨op=26
 ·rw[if_pos g24]
  rcases g24 with rfl|rfl
  all_goals
   go_enter Try.func57,Try.ntmps57
   go_wp2_with fail
   refine (W2.out _).mono ?_
   rintro e w1 ⟨rfl,rfl⟩
   go_wp2
   go_ret
   exact⟨rfl,(Since.refl _).alloc _⟩
 rw[if_neg g24]
 have n3:(op==3)=false:=by simpa using g3
 have n18:(op==18)=false:=by simpa using g18
 have n19:(op==19)=false:=by simpa using g19
 have n20:(op==20)=false:=by simp;omega
 have n21:(op==21)=false:=by simp;omega
 have n22:(op==22)=false:=by simp;omega
 have n24:(op==24)=false:=by simp;omega
 have n26:(op==26)=false:=by simp;omega
 clear g3 g18 g19 g20 g24
 go_enter Try.func57,Try.ntmps57
 go_wp2
 go_ret
 exact⟨rfl,(Since.refl _).alloc _⟩
theorem placesB_get:∀ (l:List Int) (n:Nat),placesB l n=true↔∀ (j:Nat) (x:Int),l[j]? = some x→x=((n+j:Nat):Int)
 | [],n=>by simp[placesB]
 | r::l,n=>by
  unfold placesB
  rw[Bool.and_eq_true,beq_iff_eq,placesB_get l (n+1)]
  constructor
  ·rintro⟨h1,h2⟩ j x hj
   cases j with
   | zero=>simp at hj;rw[←hj,h1];simp
   | succ j=>have:=h2 j x (by simpa using hj);rw[this];congr 1;omega
  ·intro h
   refine⟨by have:=h 0 r rfl;simpa using this,fun j x hj=>?_⟩
   have:=h (j+1) x (by simpa using hj)
   rw[this];congr 1;omega
theorem placesB_no {l : List Int} {k : Nat} {x : Int} (hx:l[k]? = some x) (hne:x≠(k:Int)):placesB l 0=false:=by
 cases h:placesB l 0 with
 | false=>rfl
 | true=>exact absurd (by have:=(placesB_get l 0).1 h k x hx;simpa using this) hne
set_option maxHeartbeats 1000000 in
set_option maxRecDepth 100000 in
theorem shape_any (m:Mach) (av:Value) (w:World) (h:Ints w av m.args):Calls Try.prog 53 #[mv m av] w (TellsS (shapeB m) w):=by
 obtain⟨ad,cap,rfl⟩:=nums_lenI h
 have hlen:=h.len
 unfold maxLen at hlen
 obtain⟨op,d,e,a,b,c,imm,args⟩:=m
 dsimp only at h hlen
 unfold mv shapeB
 dsimp only
 by_cases g28:op=28
 ·subst g28
  rw[if_pos rfl]
  have H:=Lib.hid h;clear h
  generalize hn:args.length=n at *
  have HN:=Lib.hid hn;clear hn
  generalize hP:(placesB args 0&&decide (n≤4)&&d==0)=P
  have HP0:=Lib.hid hP;clear hP
  go_enter Try.func53,Try.ntmps53
  go_wp2
  go_loop [12] (fun i=>∃ k:Nat,k≤n∧i=.int .i64 k∧∀ (j:Nat) (x:Int),j<k→args[j]? = some x→x=(j:Int)) (fun i=>n-(intOf i).toNat)
  case atStart=>exact⟨0,Nat.zero_le _,rfl,fun j x hj=>by omega⟩
  case round =>
   obtain⟨k,hk,rfl,hall⟩:=hrel
   have HALL:=Lib.hid hall;clear hall
   by_cases hlt:k<n
   ·obtain⟨_,hc⟩:=nums_cell (HN.out ▸ H.out)
    obtain⟨B,off,rfl,hB,hcell⟩:=hc (by intro e;have:=HN.out;rw[e]at this;simp at this;omega)
    obtain⟨x,hx⟩:∃ x,args[k]? = some x:=⟨_,List.getElem?_eq_getElem (by have:=HN.out;omega)⟩
    have hcx:=(((Since.refl w).alloc (.cells #[.int .i64 28,.int .i64 d,.int .i64 e,.int .i64 a,.int .i64 b,.int .i64 c,.int .i32 imm,.slice (some ⟨B,off,none⟩) n cap] 46)).cell (p:=⟨B,off+k,none⟩) hB).trans (hcell k x hx)
    have HX:=Lib.hid hx
    clear hcell hc hB hx
    by_cases hxk:x=(k:Int)
    ·have hb:(x != (k:Int))=false:=by simp[hxk]
     have HXK:=Lib.hid hxk;clear hxk
     go_wp2
     go_round
     case rel=>exact⟨k+1,by omega,by go_num,fun j y hj hy=>by
      by_cases e:j=k
      ·subst e;rw[HX.out]at hy;cases hy;exact HXK.out
      ·exact HALL.out j y (by omega) hy⟩
     case measure=>simp[intOf];omega
    ·have hb:(x != (k:Int))=true:=by simpa using hxk
     have hno:=placesB_no HX.out hxk
     have HNO:=Lib.hid hno
     clear hno hxk
     go_wp2
     go_ret
     exact⟨by rw[←HP0.out,HNO.out];rfl,(Since.refl _).alloc _⟩
   ·obtain rfl:k=n:=by omega
    have hp:placesB args 0=true:=(placesB_get args 0).2 fun j x hj=>by
     have:=HALL.out j x (by have:=(List.getElem?_eq_some_iff.1 hj).1;have:=HN.out;omega) hj
     simpa using this
    have HP:=Lib.hid hp;clear hp
    by_cases h4:k≤4
    ·have hd4:decide ((k:Int)≤4)=true:=by simp;omega
     cases hd:(d==0)
     all_goals
      go_wp2
      go_ret
      exact⟨by rw[←HP0.out,HP.out,decide_eq_true h4,hd];rfl,(Since.refl _).alloc _⟩
    ·have hd4:decide ((k:Int)≤4)=false:=by simp;omega
     go_wp2
     go_ret
     exact⟨by rw[←HP0.out,decide_eq_false h4,Bool.and_false,Bool.false_and];rfl,(Since.refl _).alloc _⟩
 rw[if_neg g28]
 have n28:(op==28)=false:=by simpa using g28
 clear h
 by_cases g29:op=29
 ·subst g29
  rw[if_pos rfl]
  clear g28
  cases hd:(d==0)
  ·go_enter Try.func53,Try.ntmps53
   go_wp2
   go_ret
   exact⟨rfl,(Since.refl _).alloc _⟩
  ·cases he:(e==1)
   all_goals
    go_enter Try.func53,Try.ntmps53
    go_wp2
    go_ret
    exact⟨rfl,(Since.refl _).alloc _⟩
 rw[if_neg g29]
 have n29:(op==29)=false:=by simpa using g29
 clear g28 g29
 have W:=Lib.hid (fun w=>within_any op 1 31 w)
 go_enter Try.func53,Try.ntmps53
 go_wp2_with fail
 refine (W.out _).mono ?_
 rintro e w1 ⟨rfl,rfl⟩
 go_wp2
 go_ret
 exact⟨rfl,(Since.refl _).alloc _⟩
set_option maxHeartbeats 4000000 in
set_option maxRecDepth 100000 in
theorem ins_any (m:Mach) (av:Value) (k slots:Int) (w:World) (h:Ints w av m.args) (hf:Fine m) :
  Calls Try.prog 20 #[mv m av,.int .i64 k,.int .i64 slots] w (NumP (insE m k slots) w):=by
 have hsh:=fun w h=>shape_any m av w h
 have HT7:=Lib.hid (fun w h=>takes7_any m av w h hf.2.2)
 have HM7:=Lib.hid (fun w h=>makes7_any m av w h hf.2.2)
 have HT:=Lib.hid (fun w h=>takes_any m av w h hf)
 have HM:=Lib.hid (fun w h=>makes_any m av w h hf)
 have HF:=Lib.hid hf
 have HLT:=Lib.hid (takes7_len m hf.2.2)
 have HLM:=Lib.hid (makes7_len m)
 have HLTA:=Lib.hid (takes_len m hf.2.2)
 have HLMA:=Lib.hid (makes_len m)
 have H:=Lib.hid h
 clear h hf
 generalize hE:insE m k slots=E
 unfold insE at hE
 generalize shapeB m=sh at *
 have HSH:=Lib.hid hsh;clear hsh
 cases sh with
 | false =>
  have HE:=Lib.hid hE;clear hE
  unfold mv at HSH
  unfold mv
  go_enter Try.func20,Try.ntmps20
  go_wp2_with fail
  refine (HSH.out _ (H.out.keep ((Since.refl _).alloc _))).mono ?_
  rintro e w1 ⟨rfl,hs1⟩
  go_wp2
  go_ret
  exact⟨by rw[←HE.out];rfl,((Since.refl _).alloc _).trans hs1⟩
 | true =>
  rw[if_neg (by decide)]at hE
  by_cases hst:m.op=30∨m.op=31
  ·have hsb:stackB m=true:=by unfold stackB;rcases hst with h | h<;>simp[h]
   rw[hsb]at hE
   have HP:=Lib.hid hE
   have HST:=Lib.hid hst
   clear hE hsb
   have hop:(m.op==30)=true∨((m.op==30)=false∧(m.op==31)=true):=by
    rcases hst with h|h
    ·left;simp[h]
    ·right;simp[h]
   clear hst
   unfold mv at HSH
   unfold mv
   rcases hop with h30|⟨h30,h31⟩
   all_goals
    go_enter Try.func20,Try.ntmps20
    go_wp2_with fail
    refine (HSH.out _ (H.out.keep ((Since.refl _).alloc _))).mono ?_
    rintro e w0 ⟨rfl,hs0⟩
    have hc0:∀ i,w0.cell? ⟨w.heap.size,i,none⟩=_:=fun i=>hs0.cell (p:=⟨w.heap.size,i,none⟩) (by simp)
    have HS0:=Lib.hid (((Since.refl w).alloc (.cells #[.int .i64 m.op,.int .i64 m.d,.int .i64 m.e,.int .i64 m.a,.int .i64 m.b,.int .i64 m.c,.int .i32 m.imm,av] 46)).trans hs0)
    have HSZ:=Lib.hid (show w.heap.size<w0.heap.size from by have:=hs0.size;simp at this;omega)
    clear hs0
    go_wp2
    have HC0:=Lib.hid hc0
    clear hc0
    refine wp_region_list_facts rfl (by decide +kernel) (by decide +kernel)
     [Is (mv m av),IsNums .i64 (takes m),Is (mv m av),IsNums .i64 (makes m),IsRows (takes m) (makes m),IsNums .i64 (joined [((.nilFunc:Value),takes m),(.nilFunc,makes m)]),IsNums .i64 (joined [((.nilFunc:Value),takes m),(.nilFunc,makes m)])]
     (by repeat (first | exact trivial | refine⟨Is.stable _,?_⟩ | refine⟨IsNums.stable _ _,?_⟩ | refine⟨IsRows.stable _ _,?_⟩)) ⟨?_,?_,?_,?_,?_,?_,?_,trivial⟩ ?_
    all_goals
     intro vs wA hs hk
     have hc:∀ i,wA.cell? ⟨w.heap.size,i,none⟩=_:=fun i=>(hs.cell (p:=⟨w.heap.size,i,none⟩) HSZ.out).trans (HC0.out i)
     have HSAc:=Lib.hid hc
     have HSAz:=Lib.hid (Nat.lt_of_lt_of_le HSZ.out hs.size)
     have HSA:=Lib.hid (HS0.out.trans hs)
     clear hs
     simp only[putAll,Act.put,Knows,KnowsAll,nthF,Is,List.setIfInBounds_toArray,List.set_cons_zero,List.set_cons_succ,Nat.reduceAdd,List.length_cons,List.length_nil]at hk ⊢
     try simp only[hk]
    ·go_wp2
     exact⟨_,rfl,rfl,Since.refl _⟩
    ·go_wp2_with fail
     refine (HT.out _ (H.out.keep HSA.out)).mono ?_
     rintro e w2 ⟨v,rfl,hv,hs2⟩
     go_wp2
     exact⟨_,rfl,hv,hs2⟩
    ·go_wp2
     exact⟨_,rfl,rfl,Since.refl _⟩
    ·go_wp2_with fail
     refine (HM.out _ (H.out.keep HSA.out)).mono ?_
     rintro e w2 ⟨v,rfl,hv,hs2⟩
     go_wp2
     exact⟨_,rfl,hv,hs2⟩
    ·obtain⟨h1,h2,_⟩:=hk
     obtain⟨a1,c1,e1⟩:=nums_lenI h1
     obtain⟨a2,c2,e2⟩:=nums_lenI h2
     rw[e1]at h1 ⊢
     rw[e2]at h2 ⊢
     have H1:=Lib.hid h1;clear h1
     have H2:=Lib.hid h2;clear h2
     go_wp2
     exact⟨_,rfl,rows_last rfl _ H1.out H2.out,(Since.refl _).alloc _⟩
    ·obtain⟨⟨v1,v2,h1⟩,_⟩:=hk
     have H1:=Lib.hid h1;clear h1
     go_wp2_with fail
     refine (concat_any _ _ _ H1.out (by simp) (by simp[total];have:=HLTA.out;have:=HLMA.out;omega)).mono ?_
     rintro e w2 ⟨v,rfl,hv,hs2⟩
     go_wp2
     exact⟨_,rfl,hv,hs2⟩
    ·go_wp2
     exact⟨_,rfl,hk.1,Since.refl _⟩
    ·clear hk
     go_wp2
     clear hc
     refine wp_region_list_facts rfl (by decide +kernel) (by decide +kernel)
      [Is (mv m av),IsNums .i64 (takes7 m),Is (mv m av),IsNums .i64 (makes7 m),IsRows (takes7 m) (makes7 m),IsNums .i64 (joined [((.nilFunc:Value),takes7 m),(.nilFunc,makes7 m)]),IsNums .i64 (joined [((.nilFunc:Value),takes7 m),(.nilFunc,makes7 m)])]
      (by repeat (first | exact trivial | refine⟨Is.stable _,?_⟩ | refine⟨IsNums.stable _ _,?_⟩ | refine⟨IsRows.stable _ _,?_⟩)) ⟨?_,?_,?_,?_,?_,?_,?_,trivial⟩ ?_
     all_goals
      intro vs w1 hs hk
      have hc:∀ i,w1.cell? ⟨w.heap.size,i,none⟩=_:=fun i=>(hs.cell (p:=⟨w.heap.size,i,none⟩) HSAz.out).trans (HSAc.out i)
      have HSSc:=Lib.hid hc
      have HSSz:=Lib.hid (Nat.lt_of_lt_of_le HSAz.out hs.size)
      have HSS:=Lib.hid (HSA.out.trans hs)
      clear hs
      simp only[putAll,Act.put,Knows,KnowsAll,nthF,Is,List.setIfInBounds_toArray,List.set_cons_zero,List.set_cons_succ,Nat.reduceAdd,List.length_cons,List.length_nil]at hk ⊢
      try simp only[hk]
     ·go_wp2
      exact⟨_,rfl,rfl,Since.refl _⟩
     ·go_wp2_with fail
      refine (HT7.out _ (H.out.keep HSS.out)).mono ?_
      rintro e w2 ⟨v,rfl,hv,hs2⟩
      go_wp2
      exact⟨_,rfl,hv,hs2⟩
     ·go_wp2
      exact⟨_,rfl,rfl,Since.refl _⟩
     ·go_wp2_with fail
      refine (HM7.out _ (H.out.keep HSS.out)).mono ?_
      rintro e w2 ⟨v,rfl,hv,hs2⟩
      go_wp2
      exact⟨_,rfl,hv,hs2⟩
     ·obtain⟨h1,h2,_⟩:=hk
      obtain⟨a1,c1,e1⟩:=nums_lenI h1
      obtain⟨a2,c2,e2⟩:=nums_lenI h2
      rw[e1]at h1 ⊢
      rw[e2]at h2 ⊢
      have H1:=Lib.hid h1;clear h1
      have H2:=Lib.hid h2;clear h2
      go_wp2
      exact⟨_,rfl,rows_last rfl _ H1.out H2.out,(Since.refl _).alloc _⟩
     ·obtain⟨⟨v1,v2,h1⟩,_⟩:=hk
      have H1:=Lib.hid h1;clear h1
      go_wp2_with fail
      refine (concat_any _ _ _ H1.out (by simp) (by simp[total];have:=HLT.out;have:=HLM.out;omega)).mono ?_
      rintro e w2 ⟨v,rfl,hv,hs2⟩
      go_wp2
      exact⟨_,rfl,hv,hs2⟩
     ·go_wp2
      exact⟨_,rfl,hk.1,Since.refl _⟩
     ·have hx:=hk.2.2.2.2.2.2.1
      rw[show joined [((.nilFunc:Value),takes7 m),(.nilFunc,makes7 m)]=regsOf m from by simp[joined,regsOf,HST.out]]at hx
      clear hk hc
      obtain⟨ra,rc,hv⟩:=nums_lenI hx
      rw[hv]at hx ⊢
      have hrl:=hx.len
      unfold maxLen at hrl
      have HX:=Lib.hid hx
      clear hx hv
      have hbad0:badReg k (regsOf m)=(regsOf m).any fun r=>decide (r<0)||decide (k≤r):=rfl
      have HBAD:=Lib.hid hbad0
      clear hbad0
      generalize hR:regsOf m=R at *
      clear hR
      go_wp2
      go_loop [37] (fun i=>∃ t:Nat,t≤R.length∧i=.int .i64 t∧∀ (j:Nat) (x:Int),j<t→R[j]? = some x→0≤x∧x<k) (fun i=>R.length-(intOf i).toNat)
      case atStart=>exact⟨0,Nat.zero_le _,rfl,fun j x hj=>by omega⟩
      case round =>
       obtain⟨t,ht,rfl,hall⟩:=hrel
       have HALL:=Lib.hid hall;clear hall
       by_cases hlt:t<R.length
       ·obtain⟨_,hcc⟩:=nums_cell HX.out
        obtain⟨B,off,rfl,hB,hcell⟩:=hcc (by intro e;rw[e]at hlt;simp at hlt)
        obtain⟨x,hx⟩:∃ x,R[t]? = some x:=⟨_,List.getElem?_eq_getElem hlt⟩
        have hcx:=hcell t x hx
        have HXT:=Lib.hid hx
        clear hcell hcc hB hx
        by_cases hx0:x<0
        ·have hb:badReg k R=true:=by
          rw[HBAD.out,List.any_eq_true];exact⟨x,List.mem_of_getElem? HXT.out,by simp[hx0]⟩
         have HB:=Lib.hid hb;clear hb
         go_wp2
         go_ret
         exact⟨by rw[←HP.out,HB.out];rfl,HSS.out⟩
        ·by_cases hxk:k≤x
         ·have hb:badReg k R=true:=by
           rw[HBAD.out,List.any_eq_true];exact⟨x,List.mem_of_getElem? HXT.out,by simp[hxk]⟩
          have HB:=Lib.hid hb;clear hb
          go_wp2
          go_ret
          exact⟨by rw[←HP.out,HB.out];rfl,HSS.out⟩
         ·go_wp2
          go_round
          case rel=>exact⟨t+1,by omega,by go_num,fun j y hj hy=>by
           by_cases e:j=t
           ·subst e;rw[HXT.out]at hy;cases hy;omega
           ·exact HALL.out j y (by omega) hy⟩
          case measure=>simp[intOf];omega
       ·obtain rfl:t=R.length:=by omega
        have hb:badReg k R=false:=by
         rw[HBAD.out,List.any_eq_false]
         intro x hx
         obtain⟨j,hj⟩:=List.getElem?_of_mem hx
         have:=HALL.out j x (List.getElem?_eq_some_iff.1 hj).1 hj
         simp;omega
        rw[hb,if_neg (by decide)]at HP
        clear hb
        have hImm:∀ w2,Since w1 w2→Calls Try.prog 57 #[mv m av] w2 (TellsS (immB m) w2):=fun w2 _=>imm_any m av w2 HF.out.1 HF.out.2.1
        generalize hI:immB m=I at *
        have HIM:=Lib.hid hImm
        clear hImm hI
        have hcE:=HSSc.out
        have hiu:m.imm≤2147483647:=HF.out.2.1
        by_cases hi0:m.imm<0
        ·go_wp2
         go_ret
         exact⟨by rw[←HP.out,decide_eq_true hi0];rfl,HSS.out⟩
        ·have hd0:decide (m.imm<0)=false:=decide_eq_false hi0
         by_cases hi1:slots≤m.imm
         ·have hd1:decide (slots≤m.imm)=true:=decide_eq_true hi1
          go_wp2
          go_ret
          exact⟨by rw[←HP.out,decide_eq_true hi1,Bool.or_true];rfl,HSS.out⟩
         ·rw[decide_eq_false hi0,decide_eq_false hi1]at HP
          have hd1:decide (slots≤m.imm)=false:=decide_eq_false hi1
          go_wp2_with fail
          refine (HIM.out _ (Since.refl _)).mono ?_
          rintro e w3 ⟨rfl,hs3⟩
          cases I<;>(go_wp2;go_ret;exact⟨by rw[←HP.out];rfl,HSS.out.trans hs3⟩)
  ·have hsb:stackB m=false:=by unfold stackB;simp;omega
   rw[hsb,Bool.false_and]at hE
   have HP:=Lib.hid hE
   have HST:=Lib.hid hst
   have h30:(m.op==30)=false:=by simp;omega
   have h31:(m.op==31)=false:=by simp;omega
   clear hE hsb hst
   unfold mv at HSH
   unfold mv
   go_enter Try.func20,Try.ntmps20
   go_wp2_with fail
   refine (HSH.out _ (H.out.keep ((Since.refl _).alloc _))).mono ?_
   rintro e w0 ⟨rfl,hs0⟩
   have hc0:∀ i,w0.cell? ⟨w.heap.size,i,none⟩=_:=fun i=>hs0.cell (p:=⟨w.heap.size,i,none⟩) (by simp)
   have HS0:=Lib.hid (((Since.refl w).alloc (.cells #[.int .i64 m.op,.int .i64 m.d,.int .i64 m.e,.int .i64 m.a,.int .i64 m.b,.int .i64 m.c,.int .i32 m.imm,av] 46)).trans hs0)
   have HSZ:=Lib.hid (show w.heap.size<w0.heap.size from by have:=hs0.size;simp at this;omega)
   clear hs0
   go_wp2
   have HC0:=Lib.hid hc0
   clear hc0
   refine wp_region_list_facts rfl (by decide +kernel) (by decide +kernel)
    [Is (mv m av),IsNums .i64 (takes m),Is (mv m av),IsNums .i64 (makes m),IsRows (takes m) (makes m),IsNums .i64 (joined [((.nilFunc:Value),takes m),(.nilFunc,makes m)]),IsNums .i64 (joined [((.nilFunc:Value),takes m),(.nilFunc,makes m)])]
    (by repeat (first | exact trivial | refine⟨Is.stable _,?_⟩ | refine⟨IsNums.stable _ _,?_⟩ | refine⟨IsRows.stable _ _,?_⟩)) ⟨?_,?_,?_,?_,?_,?_,?_,trivial⟩ ?_
   all_goals
    intro vs w1 hs hk
    have hc:∀ i,w1.cell? ⟨w.heap.size,i,none⟩=_:=fun i=>(hs.cell (p:=⟨w.heap.size,i,none⟩) HSZ.out).trans (HC0.out i)
    have HSSc:=Lib.hid hc
    have HSSz:=Lib.hid (Nat.lt_of_lt_of_le HSZ.out hs.size)
    have HSS:=Lib.hid (HS0.out.trans hs)
    clear hs
    simp only[putAll,Act.put,Knows,KnowsAll,nthF,Is,List.setIfInBounds_toArray,List.set_cons_zero,List.set_cons_succ,Nat.reduceAdd,List.length_cons,List.length_nil]at hk ⊢
    try simp only[hk]
   ·go_wp2
    exact⟨_,rfl,rfl,Since.refl _⟩
   ·go_wp2_with fail
    refine (HT.out _ (H.out.keep HSS.out)).mono ?_
    rintro e w2 ⟨v,rfl,hv,hs2⟩
    go_wp2
    exact⟨_,rfl,hv,hs2⟩
   ·go_wp2
    exact⟨_,rfl,rfl,Since.refl _⟩
   ·go_wp2_with fail
    refine (HM.out _ (H.out.keep HSS.out)).mono ?_
    rintro e w2 ⟨v,rfl,hv,hs2⟩
    go_wp2
    exact⟨_,rfl,hv,hs2⟩
   ·obtain⟨h1,h2,_⟩:=hk
    obtain⟨a1,c1,e1⟩:=nums_lenI h1
    obtain⟨a2,c2,e2⟩:=nums_lenI h2
    rw[e1]at h1 ⊢
    rw[e2]at h2 ⊢
    have H1:=Lib.hid h1;clear h1
    have H2:=Lib.hid h2;clear h2
    go_wp2
    exact⟨_,rfl,rows_last rfl _ H1.out H2.out,(Since.refl _).alloc _⟩
   ·obtain⟨⟨v1,v2,h1⟩,_⟩:=hk
    have H1:=Lib.hid h1;clear h1
    go_wp2_with fail
    refine (concat_any _ _ _ H1.out (by simp) (by simp[total];have:=HLTA.out;have:=HLMA.out;omega)).mono ?_
    rintro e w2 ⟨v,rfl,hv,hs2⟩
    go_wp2
    exact⟨_,rfl,hv,hs2⟩
   ·go_wp2
    exact⟨_,rfl,hk.1,Since.refl _⟩
   ·have hx:=hk.2.2.2.2.2.2.1
    rw[show joined [((.nilFunc:Value),takes m),(.nilFunc,makes m)]=regsOf m from by simp[joined,regsOf,HST.out]]at hx
    clear hk hc
    obtain⟨ra,rc,hv⟩:=nums_lenI hx
    rw[hv]at hx ⊢
    have hrl:=hx.len
    unfold maxLen at hrl
    have HX:=Lib.hid hx
    clear hx hv
    have hbad0:badReg k (regsOf m)=(regsOf m).any fun r=>decide (r<0)||decide (k≤r):=rfl
    have HBAD:=Lib.hid hbad0
    clear hbad0
    generalize hR:regsOf m=R at *
    clear hR
    go_wp2
    go_loop [37] (fun i=>∃ t:Nat,t≤R.length∧i=.int .i64 t∧∀ (j:Nat) (x:Int),j<t→R[j]? = some x→0≤x∧x<k) (fun i=>R.length-(intOf i).toNat)
    case atStart=>exact⟨0,Nat.zero_le _,rfl,fun j x hj=>by omega⟩
    case round =>
     obtain⟨t,ht,rfl,hall⟩:=hrel
     have HALL:=Lib.hid hall;clear hall
     by_cases hlt:t<R.length
     ·obtain⟨_,hcc⟩:=nums_cell HX.out
      obtain⟨B,off,rfl,hB,hcell⟩:=hcc (by intro e;rw[e]at hlt;simp at hlt)
      obtain⟨x,hx⟩:∃ x,R[t]? = some x:=⟨_,List.getElem?_eq_getElem hlt⟩
      have hcx:=hcell t x hx
      have HXT:=Lib.hid hx
      clear hcell hcc hB hx
      by_cases hx0:x<0
      ·have hb:badReg k R=true:=by
        rw[HBAD.out,List.any_eq_true];exact⟨x,List.mem_of_getElem? HXT.out,by simp[hx0]⟩
       have HB:=Lib.hid hb;clear hb
       go_wp2
       go_ret
       exact⟨by rw[←HP.out,HB.out];rfl,HSS.out⟩
      ·by_cases hxk:k≤x
       ·have hb:badReg k R=true:=by
         rw[HBAD.out,List.any_eq_true];exact⟨x,List.mem_of_getElem? HXT.out,by simp[hxk]⟩
        have HB:=Lib.hid hb;clear hb
        go_wp2
        go_ret
        exact⟨by rw[←HP.out,HB.out];rfl,HSS.out⟩
       ·go_wp2
        go_round
        case rel=>exact⟨t+1,by omega,by go_num,fun j y hj hy=>by
         by_cases e:j=t
         ·subst e;rw[HXT.out]at hy;cases hy;omega
         ·exact HALL.out j y (by omega) hy⟩
        case measure=>simp[intOf];omega
     ·obtain rfl:t=R.length:=by omega
      have hb:badReg k R=false:=by
       rw[HBAD.out,List.any_eq_false]
       intro x hx
       obtain⟨j,hj⟩:=List.getElem?_of_mem hx
       have:=HALL.out j x (List.getElem?_eq_some_iff.1 hj).1 hj
       simp;omega
      rw[hb,if_neg (by decide)]at HP
      clear hb
      have hImm:∀ w2,Since w1 w2→Calls Try.prog 57 #[mv m av] w2 (TellsS (immB m) w2):=fun w2 _=>imm_any m av w2 HF.out.1 HF.out.2.1
      generalize hI:immB m=I at *
      have HIM:=Lib.hid hImm
      clear hImm hI
      have hcE:=HSSc.out
      go_wp2_with fail
      refine (HIM.out _ (Since.refl _)).mono ?_
      rintro e w3 ⟨rfl,hs3⟩
      cases I<;>(go_wp2;go_ret;exact⟨by rw[←HP.out];rfl,HSS.out.trans hs3⟩)
def ev (e:EndV):Value:=.agg #[.int .i64 e.op,.int .i64 e.a,.int .i64 e.b,e.tov,.int .i32 e.imm]
set_option maxHeartbeats 1000000 in
set_option maxRecDepth 100000 in
theorem mneeds_any (e:EndV) (w:World) (ht:∃ a n c,e.tov=.slice a n c):Calls Try.prog 99 #[ev e] w (Gives w (needs e)):=by
 obtain⟨ta,tn,tc,htv⟩:=ht
 obtain⟨op,a,b,to,tov,imm⟩:=e
 dsimp only at htv
 subst htv
 unfold ev needs
 dsimp only
 by_cases g2:op=2
 ·subst g2
  rw[if_pos (by omega)]
  go_enter Try.func99,Try.ntmps99
  go_wp2
  go_ret
  exact gives_last ((Since.refl _).alloc _) [a] _ (by simp) rfl (show 1≤maxLen from by decide) rfl
 by_cases g6:op=6
 ·subst g6
  rw[if_pos (by omega)]
  go_enter Try.func99,Try.ntmps99
  go_wp2
  go_ret
  exact gives_last ((Since.refl _).alloc _) [a] _ (by simp) rfl (show 1≤maxLen from by decide) rfl
 have n2:(op==2)=false:=by simpa using g2
 have n6:(op==6)=false:=by simpa using g6
 by_cases g7:op=7
 ·subst g7
  by_cases ha:0≤a
  ·rw[if_pos (by omega)]
   go_enter Try.func99,Try.ntmps99
   go_wp2
   go_ret
   exact gives_last ((Since.refl _).alloc _) [a] _ (by simp) rfl (show 1≤maxLen from by decide) rfl
  ·rw[if_neg (by omega),if_neg (by omega)]
   have hd:decide (0≤a)=false:=decide_eq_false ha
   go_enter Try.func99,Try.ntmps99
   go_wp2
   go_ret
   exact gives_none ((Since.refl _).alloc _)
 rw[if_neg (by omega)]
 have n7:(op==7)=false:=by simpa using g7
 clear g2 g6 g7
 by_cases h3:3≤op
 ·by_cases h5:op≤5
  ·rw[if_pos ⟨h3,h5⟩]
   go_enter Try.func99,Try.ntmps99
   go_wp2
   go_ret
   exact gives_last ((Since.refl _).alloc _) [a,b] _ (by simp) rfl (show 2≤maxLen from by decide) rfl
  ·rw[if_neg (by omega)]
   go_enter Try.func99,Try.ntmps99
   go_wp2
   go_ret
   exact gives_none ((Since.refl _).alloc _)
 ·rw[if_neg (by omega)]
  go_enter Try.func99,Try.ntmps99
  go_wp2
  go_ret
  exact gives_none ((Since.refl _).alloc _)
set_option maxHeartbeats 400000 in
set_option maxRecDepth 100000 in
theorem needs_any (e:EndV) (w:World) (ht:∃ a n c,e.tov=.slice a n c):Calls Try.prog 73 #[ev e] w (Gives w (needs e)):=by
 have HN:=Lib.hid (fun w=>mneeds_any e w ht)
 obtain⟨ta,tn,tc,htv⟩:=ht
 unfold ev at HN
 unfold ev
 rw[htv]at HN ⊢
 clear htv
 go_enter Try.func73,Try.ntmps73
 go_wp2_with fail
 refine (HN.out _).mono ?_
 rintro e2 w1 ⟨v,rfl,hv,hs⟩
 go_wp2
 go_ret
 exact⟨_,rfl,hv,((Since.refl _).alloc _).trans hs⟩
def wLo (op:Int):Int:=if op=1 then 1 else if op=6 then 2 else if op=7∨op=8 then 0 else 2
def wHi (op:Int):Int:=if op=1 then 1 else if op=6 then 65 else if op=7∨op=8 then 0 else 2
def Two2 (p q:Int) (w:World) (e:Ending) (w':World):Prop:=e=.returned (.tuple #[.int .i64 p,.int .i64 q])∧w=w'
set_option maxHeartbeats 400000 in
set_option maxRecDepth 100000 in
theorem ways_any (op:Int) (w:World):Calls Try.prog 72 #[.int .i64 op] w (Two2 (wLo op) (wHi op) w):=by
 unfold wLo wHi
 by_cases g1:op=1
 ·subst g1
  go_enter Try.func72,Try.ntmps72
  go_wp2
  go_ret2
  exact⟨rfl,rfl⟩
 by_cases g6:op=6
 ·subst g6
  go_enter Try.func72,Try.ntmps72
  go_wp2
  go_ret2
  exact⟨rfl,rfl⟩
 by_cases g7:op=7
 ·subst g7
  go_enter Try.func72,Try.ntmps72
  go_wp2
  go_ret2
  exact⟨rfl,rfl⟩
 by_cases g8:op=8
 ·subst g8
  go_enter Try.func72,Try.ntmps72
  go_wp2
  go_ret2
  exact⟨rfl,rfl⟩
 have g78:¬ (op=7∨op=8):=by omega
 simp only[if_neg g1,if_neg g6,if_neg g78]
 clear g78
 have n1:(op==1)=false:=by simpa using g1
 have n6:(op==6)=false:=by simpa using g6
 have n7:(op==7)=false:=by simpa using g7
 have n8:(op==8)=false:=by simpa using g8
 clear g1 g6 g7 g8
 go_enter Try.func72,Try.ntmps72
 go_wp2
 go_ret2
 exact⟨rfl,rfl⟩
theorem fitsB_eq (e:EndV):fitsB e=((decide (1≤e.op)&&decide (e.op≤8))&&(decide (wLo e.op≤(e.to.length:Int))&&decide ((e.to.length:Int)≤wHi e.op))):=by
 unfold fitsB wLo wHi
 rw[Bool.eq_iff_iff]
 by_cases g1:e.op=1
 ·simp only[if_pos g1];simp;omega
 by_cases g6:e.op=6
 ·simp only[if_neg g1,if_neg (show ¬ (2≤e.op∧e.op≤5) by omega),if_pos g6];simp;omega
 by_cases g78:e.op=7∨e.op=8
 ·simp only[if_neg g1,if_neg (show ¬ (2≤e.op∧e.op≤5) by omega),if_neg g6,if_pos g78];simp;omega
 by_cases g:2≤e.op∧e.op≤5
 ·simp only[if_neg g1,if_neg g6,if_neg g78,if_pos g];simp;omega
 ·simp only[if_neg g1,if_neg g6,if_neg g78,if_neg g];simp;omega
theorem needs_len (e:EndV):(needs e).length≤2:=by
 unfold needs;repeat' split
 all_goals simp
set_option maxHeartbeats 4000000 in
set_option maxRecDepth 100000 in
theorem end_any (e:EndV) (k nb:Int) (w:World) (h:Ints w e.tov e.to) :
  Calls Try.prog 40 #[ev e,.int .i64 k,.int .i64 nb] w (NumP (endE e k nb) w):=by
 have HN:=Lib.hid (fun w=>needs_any e w (by obtain⟨a,c,h1⟩:=nums_lenI h;exact⟨_,_,_,h1⟩))
 have HWY:=Lib.hid (fun w=>ways_any e.op w)
 have hfit:=fitsB_eq e
 have hnl:=needs_len e
 obtain⟨ta,tc,htv⟩:=nums_lenI h
 have hlen:=h.len
 unfold maxLen at hlen
 have H:=Lib.hid h
 clear h
 generalize hE:endE e k nb=E
 unfold endE at hE
 have hbn:badNeed e k=(needs e).any fun r=>decide (r<0)||decide (k≤r)||(e.op==7&&decide (0<r)):=rfl
 have hbt:badTo nb e.to=e.to.any fun t=>decide (t<1)||decide (nb≤t):=rfl
 have HBN:=Lib.hid hbn
 have HBT:=Lib.hid hbt
 clear hbn hbt
 unfold ev at HN
 unfold ev
 rw[htv]at HN ⊢
 have HTV:=Lib.hid htv;clear htv
 generalize wLo e.op=lo at *
 generalize wHi e.op=hi at *
 have HW1:=Lib.hid (fun w=>within_any e.op 1 8 w)
 have HW2:=Lib.hid (fun w=>within_any (e.to.length:Int) lo hi w)
 generalize (decide (1≤e.op)&&decide (e.op≤8))=f1 at *
 generalize (decide (lo≤(e.to.length:Int))&&decide ((e.to.length:Int)≤hi))=f2 at *
 cases f1 with
 | false =>
  rw[Bool.false_and]at hfit
  rw[if_pos hfit]at hE
  have HP:=Lib.hid hE
  clear hfit hE
  go_enter Try.func40,Try.ntmps40
  go_wp2_with fail
  refine (HWY.out _).mono ?_
  rintro e1 w1 ⟨rfl,rfl⟩
  go_wp2_with fail
  refine (HW1.out _).mono ?_
  rintro e1 w1 ⟨rfl,rfl⟩
  go_wp2
  go_ret
  exact⟨by rw[←HP.out];rfl,(Since.refl _).alloc _⟩
 | true =>
  rw[Bool.true_and]at hfit
  cases f2 with
  | false =>
   rw[if_pos hfit]at hE
   have HP:=Lib.hid hE
   clear hfit hE
   go_enter Try.func40,Try.ntmps40
   go_wp2_with fail
   refine (HWY.out _).mono ?_
   rintro e1 w1 ⟨rfl,rfl⟩
   go_wp2_with fail
   refine (HW1.out _).mono ?_
   rintro e1 w1 ⟨rfl,rfl⟩
   go_wp2_with fail
   refine (HW2.out _).mono ?_
   rintro e1 w1 ⟨rfl,rfl⟩
   go_wp2
   go_ret
   exact⟨by rw[←HP.out];rfl,(Since.refl _).alloc _⟩
  | true =>
   rw[if_neg (by rw[hfit];decide)]at hE
   have HP:=Lib.hid hE
   clear hfit hE
   go_enter Try.func40,Try.ntmps40
   go_wp2_with fail
   refine (HWY.out _).mono ?_
   rintro e1 w1 ⟨rfl,rfl⟩
   go_wp2_with fail
   refine (HW1.out _).mono ?_
   rintro e1 w1 ⟨rfl,rfl⟩
   go_wp2_with fail
   refine (HW2.out _).mono ?_
   rintro e1 w1 ⟨rfl,rfl⟩
   go_wp2_with fail
   refine (HN.out _).mono ?_
   rintro e1 w1 ⟨v,rfl,hv,hs1⟩
   obtain⟨ra,rc,rfl⟩:=nums_lenI hv
   have hc:∀ i,w1.cell? ⟨w.heap.size,i,none⟩=_:=fun i=>hs1.cell (p:=⟨w.heap.size,i,none⟩) (by simp)
   have HX:=Lib.hid hv
   have HS:=Lib.hid (((Since.refl w).alloc (.cells #[.int .i64 e.op,.int .i64 e.a,.int .i64 e.b,.slice ta e.to.length tc,.int .i32 e.imm] 53)).trans hs1)
   clear hv hs1
   generalize needs e=R at *
   go_wp2
   go_loop [35] (fun i=>∃ t:Nat,t≤R.length∧i=.int .i64 t∧∀ (j:Nat) (x:Int),j<t→R[j]? = some x→0≤x∧x<k∧¬ (e.op=7∧0<x)) (fun i=>R.length-(intOf i).toNat)
   case atStart=>exact⟨0,Nat.zero_le _,rfl,fun j x hj=>by omega⟩
   case round =>
    obtain⟨t,ht,rfl,hall⟩:=hrel
    have HALL:=Lib.hid hall;clear hall
    by_cases hlt:t<R.length
    ·obtain⟨_,hcc⟩:=nums_cell HX.out
     obtain⟨B,off,rfl,hB,hcell⟩:=hcc (by intro e;rw[e]at hlt;simp at hlt)
     obtain⟨x,hx⟩:∃ x,R[t]? = some x:=⟨_,List.getElem?_eq_getElem hlt⟩
     have hcx:=hcell t x hx
     have HXT:=Lib.hid hx
     clear hcell hcc hB hx
     by_cases hx0:x<0
     ·have hb:badNeed e k=true:=by
       rw[HBN.out,List.any_eq_true];exact⟨x,List.mem_of_getElem? HXT.out,by simp[hx0]⟩
      have HB:=Lib.hid hb;clear hb
      go_wp2
      go_ret
      exact⟨by rw[←HP.out,HB.out];rfl,HS.out⟩
     ·have hd0:decide (x<0)=false:=decide_eq_false hx0
      by_cases hxk:k≤x
      ·have hb:badNeed e k=true:=by
        rw[HBN.out,List.any_eq_true];exact⟨x,List.mem_of_getElem? HXT.out,by simp[hxk]⟩
       have HB:=Lib.hid hb;clear hb
       go_wp2
       go_ret
       exact⟨by rw[←HP.out,HB.out];rfl,HS.out⟩
      ·have hd1:decide (k≤x)=false:=decide_eq_false hxk
       cases h7:(e.op==7) with
       | true =>
        by_cases hx1:0<x
        ·have hb:badNeed e k=true:=by
          rw[HBN.out,List.any_eq_true];exact⟨x,List.mem_of_getElem? HXT.out,by simp[h7,hx1]⟩
         have HB:=Lib.hid hb;clear hb
         go_wp2
         go_ret
         exact⟨by rw[←HP.out,HB.out];rfl,HS.out⟩
        ·have hd2:decide (0<x)=false:=decide_eq_false hx1
         go_wp2
         go_round
         case rel=>exact⟨t+1,by omega,by go_num,fun j y hj hy=>by
          by_cases e:j=t
          ·subst e;rw[HXT.out]at hy;cases hy;omega
          ·exact HALL.out j y (by omega) hy⟩
         case measure=>simp[intOf];omega
       | false =>
        have h7':¬ e.op=7:=by simpa using h7
        have H7:=Lib.hid h7';clear h7'
        go_wp2
        go_round
        case rel=>exact⟨t+1,by omega,by go_num,fun j y hj hy=>by
         by_cases e:j=t
         ·subst e;rw[HXT.out]at hy;cases hy;have:=H7.out;omega
         ·exact HALL.out j y (by omega) hy⟩
        case measure=>simp[intOf];omega
    ·obtain rfl:t=R.length:=by omega
     have hb:badNeed e k=false:=by
      rw[HBN.out,List.any_eq_false]
      intro x hx
      obtain⟨j,hj⟩:=List.getElem?_of_mem hx
      have:=HALL.out j x (List.getElem?_eq_some_iff.1 hj).1 hj
      simp;omega
     rw[hb,if_neg (by decide)]at HP
     clear hb
     have hto:=(HTV.out ▸ H.out:Ints w (.slice ta e.to.length tc) e.to).keep HS.out
     have HTO:=Lib.hid hto
     clear hto
     go_wp2
     go_loop [59] (fun i=>∃ t:Nat,t≤e.to.length∧i=.int .i64 t∧∀ (j:Nat) (x:Int),j<t→e.to[j]? = some x→1≤x∧x<nb) (fun i=>e.to.length-(intOf i).toNat)
     case atStart=>exact⟨0,Nat.zero_le _,rfl,fun j x hj=>by omega⟩
     case round =>
      obtain⟨t,ht,rfl,hall⟩:=hrel
      have HALL:=Lib.hid hall;clear hall
      by_cases hlt:t<e.to.length
      ·obtain⟨_,hcc⟩:=nums_cell HTO.out
       obtain⟨B,off,rfl,hB,hcell⟩:=hcc (by intro e;rw[e]at hlt;simp at hlt)
       obtain⟨x,hx⟩:∃ x,e.to[t]? = some x:=⟨_,List.getElem?_eq_getElem hlt⟩
       have hcx:=hcell t x hx
       have HXT:=Lib.hid hx
       clear hcell hcc hB hx
       by_cases hx0:x<1
       ·have hb:badTo nb e.to=true:=by
         rw[HBT.out,List.any_eq_true];exact⟨x,List.mem_of_getElem? HXT.out,by simp[hx0]⟩
        have HB:=Lib.hid hb;clear hb
        go_wp2
        go_ret
        exact⟨by rw[←HP.out,HB.out];rfl,HS.out⟩
       ·have hd0:decide (x<1)=false:=decide_eq_false hx0
        by_cases hxk:nb≤x
        ·have hb:badTo nb e.to=true:=by
          rw[HBT.out,List.any_eq_true];exact⟨x,List.mem_of_getElem? HXT.out,by simp[hxk]⟩
         have HB:=Lib.hid hb;clear hb
         go_wp2
         go_ret
         exact⟨by rw[←HP.out,HB.out];rfl,HS.out⟩
        ·have hd1:decide (nb≤x)=false:=decide_eq_false hxk
         go_wp2
         go_round
         case rel=>exact⟨t+1,by omega,by go_num,fun j y hj hy=>by
          by_cases e:j=t
          ·subst e;rw[HXT.out]at hy;cases hy;omega
          ·exact HALL.out j y (by omega) hy⟩
         case measure=>simp[intOf];omega
      ·have hte:t=e.to.length:=by omega
       have HTE:=Lib.hid hte;clear hte
       have hb:badTo nb e.to=false:=by
        rw[HBT.out,List.any_eq_false]
        intro x hx
        obtain⟨j,hj⟩:=List.getElem?_of_mem hx
        have:=HALL.out j x (by have:=(List.getElem?_eq_some_iff.1 hj).1;have:=HTE.out;omega) hj
        simp;omega
       rw[hb]at HP
       clear hb
       go_wp2
       go_ret
       exact⟨by rw[←HP.out];rfl,HS.out⟩
structure Turn (S:Nat→Prop) (w w':World):Prop where
 os:w'.os=w.os
 tape:w'.tape=w.tape
 output:w'.output=w.output
 size:w.heap.size≤w'.heap.size
 block:∀ k,k<w.heap.size→¬ S k→w'.heap[k]? = w.heap[k]?
theorem Turn.refl (S:Nat→Prop) (w:World):Turn S w w:=⟨rfl,rfl,rfl,Nat.le_refl _,fun _ _ _=>rfl⟩
theorem Turn.trans {S : Nat→Prop} {a b c:World} (h:Turn S a b) (k:Turn S b c):Turn S a c:=
 ⟨k.os.trans h.os,k.tape.trans h.tape,k.output.trans h.output,Nat.le_trans h.size k.size,fun i hi hn=>(k.block i (Nat.lt_of_lt_of_le hi h.size) hn).trans (h.block i hi hn)⟩
theorem Turn.mono {S S':Nat→Prop} {a b:World} (h:Turn S a b) (hs:∀ k,k<a.heap.size→S k→S' k):Turn S' a b:=
 ⟨h.os,h.tape,h.output,h.size,fun i hi hn=>h.block i hi fun hs'=>hn (hs i hi hs')⟩
theorem Turn.since {S : Nat→Prop} {a b:World} (h:Since a b):Turn S a b:=⟨h.os,h.tape,h.output,h.size,fun i hi _=>Below.block h i hi⟩
theorem Turn.setCell {S : Nat→Prop} {a b:World} (h:Turn S a b) {p : Addr} (hp:S p.block) (v:Value):Turn S a (b.setCell p v):=
 ⟨h.os,h.tape,h.output,by simpa [World.setCell]using h.size,fun i hi hn=>by
  rw[Below.heap_setCell _ _ _ _ (fun e=>hn (by rw[e];exact hp))];exact h.block i hi hn⟩
theorem Turn.alloc {S : Nat→Prop} {a b:World} (h:Turn S a b) (o:Obj):Turn S a (b.alloc o):=h.trans (Turn.since ((Since.refl b).alloc o))
theorem Turn.toSince {S : Nat→Prop} {w0 a b:World} (h:Turn S a b) (h0:Since w0 a) (hs:∀ k,k<w0.heap.size→¬ S k):Since w0 b:=
 ⟨h.os.trans h0.os,h.tape.trans h0.tape,h.output.trans h0.output,Nat.le_trans h0.size h.size,fun i hi=>(h.block i (Nat.lt_of_lt_of_le hi h0.size) (hs i hi)).trans (h0.block i hi)⟩
theorem Turn.cell {S : Nat→Prop} {a b:World} (h:Turn S a b) {p : Addr} (hp:p.block<a.heap.size) (hn:¬ S p.block):b.cell? p=a.cell? p:=World.cell?_of_block (h.block p.block hp hn)
theorem Nums.turn {S : Nat→Prop} {k : IntKind} {w w':World} {v : Value} {l : List Int} (h:Nums k w v l) (t:Turn S w w') (hn:∀ q,v.ownBlock=some q→¬ S q):Nums k w' v l:=by
 rcases h with h|⟨b,off,cap,h1,h2,h3,h4,h5⟩
 ·exact .inl h
 ·exact .inr ⟨b,off,cap,h1,h2,h3,Nat.lt_of_lt_of_le h4 t.size,fun j n hj=>by rw[t.cell (p:=⟨b,off+j,none⟩) h4 (hn b (by rw[h1];rfl))];exact h5 j n hj⟩
def In32 (x:Int):Prop:=-2147483648≤x∧x≤2147483647
end Go.Proofs.Ytkpbmbhejpmboaa
