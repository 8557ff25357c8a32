/- (*writer).line: a line of words and numbers goes into the builder. (Printed by tools/gen_text/line.py.) (*writer).ins: an instruction's line. (Printed by tools/gen_text/ins.py.) A builder that a call has made, and the lines that go into it. -/
import Derived.Test.YtmhojfpidedjeaaGreatDoorTq03
import Derived.Test.YtmhojfpidedjeaaGreatDoorTq05
import Derived.Test.YtmhojfpidedjeaaGreatDoorTq06
namespace Go.Proofs.YtmhojfpidedjeaaGreatDoor
open Go.RowKit
set_option linter.unusedVariables false
def LineQ (B b:Nat) (m:Bs) (w:World) (e:Ending) (w':World):Prop:=e=.returned (.tuple #[])∧Bu B b m w'∧Kept B b w w'
set_option maxHeartbeats 4000000 in
set_option maxRecDepth 100000 in
theorem line_any (B b:Nat) (l:Bs) (first:ByteArray) (v:Value) (its:List It) (w:World) (hb:Bu B b l w) (hB:B≤w.heap.size) (hR:∀ w',Kept B b w w'→ItsIn w' v its) (hL:∀ w',Kept B b w w'→LaidT w')
  (hn:l.length+(first.size+(its.flatMap itS).length)≤1000000000000) :
  Calls Tryz.prog 22 #[.pointer (some ⟨b,0,none⟩),.string first,v] w (LineQ B b (l++(first.data.toList++(its.flatMap itS++[10]))) w):=by
 obtain⟨ra,rc,rfl,hrl⟩:=RowIn.shape (hR w (Kept.refl _ _ _))
 unfold maxLen at hrl
 have HR:=Lib.hid hR
 have HL:=Lib.hid hL
 have HN0:=Lib.hid hn
 have hfs:=bytes_len first
 clear hR hL
 go_enter Tryz.func22,Tryz.ntmps22
 go_wp2_with fail
 refine (bu_string B b (Lib.byteCells l) first w hb (by rw[Lib.byteCells_length];omega) hB).mono ?_
 rintro e w1 ⟨rfl,hb1,hk1⟩
 have HB1:=Lib.hid (bu_app hb1 rfl)
 have HK1:=Lib.hid hk1
 clear hb1 hk1 hb
 go_wp2_with fail
 go_loopw [21] (fun i wr=>∃ k:Nat,i=.int .i64 k∧k≤its.length∧Bu B b (l++(first.data.toList++(its.take k).flatMap itS)) wr∧Kept B b w wr) (fun i _=>its.length-(intOf i).toNat)
 case atStart=>exact⟨0,rfl,Nat.zero_le _,by rw[List.take_zero,List.flatMap_nil,List.append_nil];exact HB1.out,HK1.out⟩
 case round =>
  obtain⟨i,rfl,hi,hb,hk⟩:=hrel
  have HB:=Lib.hid hb
  have HK:=Lib.hid hk
  have HS:=Lib.hid (Nat.le_trans hB hk.size)
  clear hb hk
  by_cases hlt:i<its.length
  ·obtain⟨rb,off,x,rfl,hrb,hx,hc,hp⟩:=RowIn.at (HR.out _ HK.out) hlt
   have hc:=hc 0 (by decide)
   have HX0:=Lib.hid hx
   have hft:=flat_take itS its i
   have hfn:=flat_take itS its (i+1)
   rw[flat_next itS hx,List.length_append]at hfn
   rw[Nat.mul_one,Nat.add_zero]at hc
   clear hx
   cases x with
   | ns z y =>
    replace hc:wr.cell? ⟨rb,off+i,none⟩=some (.iface 32 _):=hc
    have h0:=ta_hit Tryz.underlying32 (fun m e=>by cases e)
    obtain⟨hz,h64⟩:=hp
    obtain⟨za,zc,rfl⟩:=nums_lenI hz
    have hyl:=Nums.len hz
    unfold maxLen at hyl
    have H64:=Lib.hid h64
    have HFN:=Lib.hid hfn
    clear hz h64 hfn hft
    go_wp2_with fail
    go_loopw [31] (fun q ws=>∃ j:Nat,q=.int .i64 j∧j≤y.length∧Bu B b ((l++(first.data.toList++(its.take i).flatMap itS))++allS (y.take j)) ws∧Kept B b w ws) (fun q _=>y.length-(intOf q).toNat)
    case atStart=>exact⟨0,rfl,Nat.zero_le _,by rw[List.take_zero];unfold allS;rw[List.flatMap_nil,List.append_nil];exact HB.out,HK.out⟩
    case round =>
     obtain⟨j,rfl,hj,hb,hk⟩:=hrel
     have HB:=Lib.hid hb
     have HK:=Lib.hid hk
     have HS:=Lib.hid (Nat.le_trans hB hk.size)
     clear hb hk
     by_cases hjl:j<y.length
     ·have hp2:=RowIn.get (HR.out _ HK.out) HX0.out
      obtain⟨yb,yo,u,rfl,hyb,hu,hcu⟩:=nums_at hp2.1 hjl
      have HX:=Lib.hid (H64.out u (List.mem_of_getElem? hu))
      have hjt:=flat_take dS y (j+1)
      rw[flat_next dS hu,List.length_append]at hjt
      have HU:=Lib.hid hu
      have HN:=Lib.hid (show ((l++(first.data.toList++(its.take i).flatMap itS))++allS (y.take j)).length+(⟨#[32]⟩++⟨(Lib.itoa u).toArray⟩:ByteArray).size≤140737488355328 from by rw[←bytes_len (⟨#[32]⟩++_)];show _+(dS u).length≤_;have:=HFN.out;simp only[List.length_append];simp only[itS,allS]at this ⊢;omega)
      have hz5:=itoa_fits u HX.out
      clear hp2 hjt hu
      go_wp2_with fail
      refine wp_region_since_tail 6 rfl (by decide +kernel) (by decide +kernel) (by decide +kernel) (by decide)
       [Is (.pointer (some ⟨b,0,none⟩)),Is (.pointer (some ⟨b,0,none⟩)),Is (.pointer (some ⟨b,0,none⟩)),Is (.int .i64 u),Is (.string ⟨(Lib.itoa u).toArray⟩),Is (.string (⟨#[32]⟩++⟨(Lib.itoa u).toArray⟩))]
       (by repeat (first | exact trivial | refine⟨Is.stable _,?_⟩ | refine⟨Any.stable,?_⟩ | refine⟨IsNums.stable _ _,?_⟩)) ⟨?_,?_,?_,?_,?_,?_,trivial⟩ ?_
      rotate_right
      ·intro vs w1 hs hk
       simp only[List.take,List.drop,putAll,Act.put,KnowsAll,nthF,Is,List.setIfInBounds_toArray,List.set_cons_zero,List.set_cons_succ,Nat.reduceAdd]at hk ⊢
       try simp only[hk]
       have HB2:=Lib.hid (HB.out.keep hs)
       have HK2:=Lib.hid (HK.out.trans (Kept.since hs HS.out))
       have HS2:=Lib.hid (Nat.le_trans HS.out hs.size)
       clear hs hk
       go_wp2_with fail
       refine (bu_string B b (Lib.byteCells ((l++(first.data.toList++(its.take i).flatMap itS))++allS (y.take j))) _ w1 HB2.out (by rw[Lib.byteCells_length];exact HN.out) HS2.out).mono ?_
       rintro e w2 ⟨rfl,hb2,hk2⟩
       have HB3:=Lib.hid (bu_app hb2 (m:=((l++(first.data.toList++(its.take i).flatMap itS))++allS (y.take j))++dS u) rfl)
       have HK3:=Lib.hid (HK2.out.trans hk2)
       clear hb2 hk2
       go_wp2
       go_roundw
       case rel=>exact⟨j+1,by go_num,by omega,by unfold allS at HB3 ⊢;rw[flat_next dS HU.out];rw[←List.append_assoc];exact HB3.out,HK3.out⟩
       case measure=>simp[intOf];omega
      all_goals
       intro vs w1 hs hk _
       simp only[List.take,putAll,Act.put,Knows,nthF,Is,List.setIfInBounds_toArray,List.set_cons_zero,List.set_cons_succ,Nat.reduceAdd]at hk ⊢
       try simp only[hk]
      ·go_wp2
       exact⟨_,rfl,rfl,Since.refl _⟩
      ·go_wp2
       exact⟨_,rfl,rfl,Since.refl _⟩
      ·go_wp2
       exact⟨_,rfl,rfl,Since.refl _⟩
      ·go_wp2
       exact⟨_,rfl,rfl,Since.refl _⟩
      ·go_wp2_with fail
       refine (Tryz.strconv_Itoa u HX.out.1 HX.out.2 _ (HL.out _ (HK.out.trans (Kept.since hs HS.out))).s.tab).mono ?_
       rintro e w2 ⟨rfl,k,os,rfl⟩
       have HG:=Lib.hid (grow_below w1 k os)
       generalize Sort.grow (w1.drewN k) os=w2 at *
       go_wp2
       exact⟨_,rfl,rfl,HG.out⟩
      ·go_wp2
       exact⟨_,rfl,rfl,Since.refl _⟩
     ·obtain rfl:y.length=j:=by omega
      have HB3:=Lib.hid HB.out
      have HK3:=Lib.hid HK.out
      rw[List.take_length]at HB3
      have HB3:=Lib.hid (show Bu B b ((l++(first.data.toList++(its.take i).flatMap itS))++itS (.ns (.slice za y.length zc) y)) _ from HB3.out)
      go_wp2
      go_roundw
      case rel=>exact⟨i+1,by go_num,by omega,by rw[flat_next itS HX0.out];simpa only [List.append_assoc]using HB3.out,HK3.out⟩
      case measure=>simp[intOf];omega
   | n y =>
    replace hc:wr.cell? ⟨rb,off+i,none⟩=some (.iface 3 _):=hc
    have h0:=ta_miss (s:=3) Tryz.underlying32 (fun m e=>by cases e) Tryz.zeroValue32 (by decide)
    have h1:=ta_hit Tryz.underlying3 (fun m e=>by cases e)
    have HX:=Lib.hid hp
    have HN:=Lib.hid (show (l++(first.data.toList++(its.take i).flatMap itS)).length+(⟨#[32]⟩++⟨(Lib.itoa y).toArray⟩:ByteArray).size≤140737488355328 from by rw[←bytes_len (⟨#[32]⟩++_)];show _+(dS y).length≤_;simp only[List.length_append];simp only[itS]at hfn;omega)
    have hz5:=itoa_fits y HX.out
    clear hp hfn hft
    go_wp2_with fail
    refine wp_region_since_tail 6 rfl (by decide +kernel) (by decide +kernel) (by decide +kernel) (by decide)
     [Is (.pointer (some ⟨b,0,none⟩)),Is (.pointer (some ⟨b,0,none⟩)),Is (.pointer (some ⟨b,0,none⟩)),Is (.int .i64 y),Is (.string ⟨(Lib.itoa y).toArray⟩),Is (.string (⟨#[32]⟩++⟨(Lib.itoa y).toArray⟩))]
     (by repeat (first | exact trivial | refine⟨Is.stable _,?_⟩ | refine⟨Any.stable,?_⟩ | refine⟨IsNums.stable _ _,?_⟩)) ⟨?_,?_,?_,?_,?_,?_,trivial⟩ ?_
    rotate_right
    ·intro vs w1 hs hk
     simp only[List.take,List.drop,putAll,Act.put,KnowsAll,nthF,Is,List.setIfInBounds_toArray,List.set_cons_zero,List.set_cons_succ,Nat.reduceAdd]at hk ⊢
     try simp only[hk]
     have HB2:=Lib.hid (HB.out.keep hs)
     have HK2:=Lib.hid (HK.out.trans (Kept.since hs HS.out))
     have HS2:=Lib.hid (Nat.le_trans HS.out hs.size)
     clear hs hk
     go_wp2_with fail
     refine (bu_string B b (Lib.byteCells (l++(first.data.toList++(its.take i).flatMap itS))) _ w1 HB2.out (by rw[Lib.byteCells_length];exact HN.out) HS2.out).mono ?_
     rintro e w2 ⟨rfl,hb2,hk2⟩
     have HB3:=Lib.hid (bu_app hb2 (m:=(l++(first.data.toList++(its.take i).flatMap itS))++itS (.n y)) rfl)
     have HK3:=Lib.hid (HK2.out.trans hk2)
     clear hb2 hk2
     go_wp2
     go_roundw
     case rel=>exact⟨i+1,by go_num,by omega,by rw[flat_next itS HX0.out];simpa only [List.append_assoc]using HB3.out,HK3.out⟩
     case measure=>simp[intOf];omega
    all_goals
     intro vs w1 hs hk _
     simp only[List.take,putAll,Act.put,Knows,nthF,Is,List.setIfInBounds_toArray,List.set_cons_zero,List.set_cons_succ,Nat.reduceAdd]at hk ⊢
     try simp only[hk]
    ·go_wp2
     exact⟨_,rfl,rfl,Since.refl _⟩
    ·go_wp2
     exact⟨_,rfl,rfl,Since.refl _⟩
    ·go_wp2
     exact⟨_,rfl,rfl,Since.refl _⟩
    ·go_wp2
     exact⟨_,rfl,rfl,Since.refl _⟩
    ·go_wp2_with fail
     refine (Tryz.strconv_Itoa y HX.out.1 HX.out.2 _ (HL.out _ (HK.out.trans (Kept.since hs HS.out))).s.tab).mono ?_
     rintro e w2 ⟨rfl,k,os,rfl⟩
     have HG:=Lib.hid (grow_below w1 k os)
     generalize Sort.grow (w1.drewN k) os=w2 at *
     go_wp2
     exact⟨_,rfl,rfl,HG.out⟩
    ·go_wp2
     exact⟨_,rfl,rfl,Since.refl _⟩
   | w y =>
    replace hc:wr.cell? ⟨rb,off+i,none⟩=some (.iface 21 _):=hc
    have h0:=ta_miss (s:=21) Tryz.underlying32 (fun m e=>by cases e) Tryz.zeroValue32 (by decide)
    have h1:=ta_miss (s:=21) Tryz.underlying3 (fun m e=>by cases e) Tryz.zeroValue3 (by decide)
    have h2:=ta_hit Tryz.underlying21 (fun m e=>by cases e)
    have HX:=Lib.hid hp
    have HN:=Lib.hid (show (l++(first.data.toList++(its.take i).flatMap itS)).length+(⟨#[32]⟩++⟨(Lib.itoa y).toArray⟩:ByteArray).size≤140737488355328 from by rw[←bytes_len (⟨#[32]⟩++_)];show _+(dS y).length≤_;simp only[List.length_append];simp only[itS]at hfn;omega)
    have hz5:=itoa_fits y ⟨by have:=HX.out.1;omega,by have:=HX.out.2;omega⟩
    clear hp hfn hft
    go_wp2_with fail
    refine wp_region_since_tail 6 rfl (by decide +kernel) (by decide +kernel) (by decide +kernel) (by decide)
     [Is (.pointer (some ⟨b,0,none⟩)),Is (.pointer (some ⟨b,0,none⟩)),Is (.pointer (some ⟨b,0,none⟩)),Is (.int .i32 y),Is (.string ⟨(Lib.itoa y).toArray⟩),Is (.string (⟨#[32]⟩++⟨(Lib.itoa y).toArray⟩))]
     (by repeat (first | exact trivial | refine⟨Is.stable _,?_⟩ | refine⟨Any.stable,?_⟩ | refine⟨IsNums.stable _ _,?_⟩)) ⟨?_,?_,?_,?_,?_,?_,trivial⟩ ?_
    rotate_right
    ·intro vs w1 hs hk
     simp only[List.take,List.drop,putAll,Act.put,KnowsAll,nthF,Is,List.setIfInBounds_toArray,List.set_cons_zero,List.set_cons_succ,Nat.reduceAdd]at hk ⊢
     try simp only[hk]
     have HB2:=Lib.hid (HB.out.keep hs)
     have HK2:=Lib.hid (HK.out.trans (Kept.since hs HS.out))
     have HS2:=Lib.hid (Nat.le_trans HS.out hs.size)
     clear hs hk
     go_wp2_with fail
     refine (bu_string B b (Lib.byteCells (l++(first.data.toList++(its.take i).flatMap itS))) _ w1 HB2.out (by rw[Lib.byteCells_length];exact HN.out) HS2.out).mono ?_
     rintro e w2 ⟨rfl,hb2,hk2⟩
     have HB3:=Lib.hid (bu_app hb2 (m:=(l++(first.data.toList++(its.take i).flatMap itS))++itS (.w y)) rfl)
     have HK3:=Lib.hid (HK2.out.trans hk2)
     clear hb2 hk2
     go_wp2
     go_roundw
     case rel=>exact⟨i+1,by go_num,by omega,by rw[flat_next itS HX0.out];simpa only [List.append_assoc]using HB3.out,HK3.out⟩
     case measure=>simp[intOf];omega
    all_goals
     intro vs w1 hs hk _
     simp only[List.take,putAll,Act.put,Knows,nthF,Is,List.setIfInBounds_toArray,List.set_cons_zero,List.set_cons_succ,Nat.reduceAdd]at hk ⊢
     try simp only[hk]
    ·go_wp2
     exact⟨_,rfl,rfl,Since.refl _⟩
    ·go_wp2
     exact⟨_,rfl,rfl,Since.refl _⟩
    ·go_wp2
     exact⟨_,rfl,rfl,Since.refl _⟩
    ·go_wp2
     exact⟨_,rfl,rfl,Since.refl _⟩
    ·go_wp2_with fail
     refine (text_any y w1 HX.out.1 HX.out.2 (HL.out _ (HK.out.trans (Kept.since hs HS.out))).s).mono ?_
     rintro e w2 ⟨rfl,hg⟩
     have HG:=Lib.hid hg
     go_wp2
     exact⟨_,rfl,rfl,HG.out⟩
    ·go_wp2
     exact⟨_,rfl,rfl,Since.refl _⟩
   | s y =>
    replace hc:wr.cell? ⟨rb,off+i,none⟩=some (.iface 9 _):=hc
    have h0:=ta_miss (s:=9) Tryz.underlying32 (fun m e=>by cases e) Tryz.zeroValue32 (by decide)
    have h1:=ta_miss (s:=9) Tryz.underlying3 (fun m e=>by cases e) Tryz.zeroValue3 (by decide)
    have h2:=ta_miss (s:=9) Tryz.underlying21 (fun m e=>by cases e) Tryz.zeroValue21 (by decide)
    have h3:=ta_hit Tryz.underlying9 (fun m e=>by cases e)
    have hz5:y.size≤1000000000000:=by rw[←bytes_len y];simp only[itS,List.length_cons]at hfn;omega
    have HN:=Lib.hid (show (l++(first.data.toList++(its.take i).flatMap itS)).length+(⟨#[32]⟩++y:ByteArray).size≤140737488355328 from by rw[←bytes_len (⟨#[32]⟩++_),bytes_app];show _+(itS (.s y)).length≤_;simp only[List.length_append];omega)
    clear hp hfn hft
    go_wp2_with fail
    refine (bu_string B b (Lib.byteCells (l++(first.data.toList++(its.take i).flatMap itS))) _ wr HB.out (by rw[Lib.byteCells_length];exact HN.out) HS.out).mono ?_
    rintro e w2 ⟨rfl,hb2,hk2⟩
    have HB3:=Lib.hid (bu_app hb2 (m:=(l++(first.data.toList++(its.take i).flatMap itS))++itS (.s y)) (by rw[bytes_app];rfl))
    have HK3:=Lib.hid (HK.out.trans hk2)
    clear hb2 hk2
    go_wp2
    go_roundw
    case rel=>exact⟨i+1,by go_num,by omega,by rw[flat_next itS HX0.out];simpa only [List.append_assoc]using HB3.out,HK3.out⟩
    case measure=>simp[intOf];omega
  ·obtain rfl:its.length=i:=by omega
   have HN:=Lib.hid (show (l++(first.data.toList++its.flatMap itS)).length+1≤140737488355328 from by simp only[List.length_append];omega)
   rw[List.take_length]at HB
   go_wp2_with fail
   refine (bu_byte B b (Lib.byteCells (l++(first.data.toList++its.flatMap itS))) 10 wr HB.out (by rw[Lib.byteCells_length];exact HN.out) HS.out).mono ?_
   rintro e w2 ⟨rfl,hb2,hk2⟩
   have HB3:=Lib.hid (bu_app1 (c:=10) rfl hb2 rfl)
   have HK3:=Lib.hid (HK.out.trans hk2)
   clear hb2 hk2
   go_wp2
   go_end0
   exact⟨rfl,by have:=HB3.out;simp only[List.append_assoc]at this;exact this,HK3.out⟩
theorem line_close {B b:Nat} {l m:Bs} {y : ByteArray} {its:List It} {w w1 w2:World} {e : Ending} (h:LineQ B b (l++(y.data.toList++(its.flatMap itS++[10]))) w1 e w2) (hm:y.data.toList++its.flatMap itS=m) (k:Kept B b w w1):LineQ B b (l++(m++[10])) w e w2:=by
 subst hm
 obtain⟨h1,h2,h3⟩:=h
 exact⟨h1,by rw[List.append_assoc];exact h2,k.trans h3⟩
set_option maxHeartbeats 4000000 in
set_option maxRecDepth 100000 in
theorem wins_any (B b:Nat) (l:Bs) (x:FIns) (w:World) (hb:Bu B b l w) (hB:B≤w.heap.size) (hA:∀ w',Kept B b w w'→Ints w' x.av x.args) (hx:InsR x) (hL:∀ w',Kept B b w w'→LaidT w')
  (hn:l.length+(insS x.d).length≤999999999999) :
  Calls Tryz.prog 24 #[.pointer (some ⟨b,0,none⟩),fiv x] w (LineQ B b (l++(insS x.d++[10])) w):=by
 obtain⟨op,dst,two,args,av,imm⟩:=x
 obtain⟨aa,ac,e⟩:=nums_lenI (hA w (Kept.refl _ _ _))
 obtain rfl:av=.slice aa args.length ac:=e
 unfold fiv
 have HB:=Lib.hid hb
 have HA:=Lib.hid hA
 have HX:=Lib.hid hx
 have HL:=Lib.hid hL
 have HN:=Lib.hid hn
 have HBs:=Lib.hid hB
 have HLt:=Lib.hid hb.lt
 clear hb hA hx hL hn hB
 obtain⟨y,hy⟩:∃ y,nameF op=y:=⟨_,rfl⟩
 have HY:=Lib.hid hy
 clear hy
 have hnm:=fun w1=>name_any op w1 HX.out.op
 rw[HY.out]at hnm
 have HNM:=Lib.hid hnm
 clear hnm
 go_enter Tryz.func24,Tryz.ntmps24
 go_wp2_with fail
 have s0:Since w (w.alloc (.cells #[.int .i64 op,.int .i64 dst,.int .i64 two,.slice aa args.length ac,.int .i32 imm] 51)):=(Since.refl w).alloc _
 refine (HNM.out _ (HL.out _ (Kept.since s0 HBs.out)).tab).mono ?_
 rintro e w1 ⟨rfl,hs⟩
 have hx1:=(HeapIs.new w #[.int .i64 op,.int .i64 dst,.int .i64 two,.slice aa args.length ac,.int .i32 imm] 51).keep hs
 have HS:=Lib.hid (s0.trans hs)
 have c0:w1.cell? ⟨w.heap.size,0,none⟩=some (.int .i64 op):=hx1.cell 0
 have c1:w1.cell? ⟨w.heap.size,1,none⟩=some (.int .i64 dst):=hx1.cell 1
 have c2:w1.cell? ⟨w.heap.size,2,none⟩=some (.int .i64 two):=hx1.cell 2
 have c3:w1.cell? ⟨w.heap.size,3,none⟩=some (.slice aa args.length ac):=hx1.cell 3
 have c4:w1.cell? ⟨w.heap.size,4,none⟩=some (.int .i32 imm):=hx1.cell 4
 have hl1:=hx1.lt
 clear hs hx1 s0
 have HB1:=Lib.hid (Bu.keep HB.out HS.out)
 have HL1:=Lib.hid (Nat.lt_of_lt_of_le HLt.out HS.out.size)
 have HS1:=Lib.hid (Nat.le_trans HBs.out HS.out.size)
 have HK1:=Lib.hid (Kept.since (b:=b) HS.out HBs.out)
 by_cases h1:op=1
 ·subst h1
  have e:(y:ByteArray).data.toList++([.n dst,.w imm]:List It).flatMap itS=insS (FIns.d ⟨1,dst,two,args,.slice aa args.length ac,imm⟩):=by
   rw[←HY.out]
   simp[insS,FIns.d,itS,opS,dS]
  have HE:=Lib.hid e
  clear e
  have HN2:=Lib.hid (show l.length+((y:ByteArray).size+(([.n dst,.w imm]:List It).flatMap itS).length)≤1000000000000 from by have h1:=HN.out;rw[←HE.out,List.length_append,bytes_len]at h1;omega)
  go_wp2_with fail
  have s2:Since w1 (w1.alloc (.cells (([.n dst,.w imm]:List It).flatMap itc).toArray 20)):=(Since.refl w1).alloc _
  have hit:∀ x∈([.n dst,.w imm]:List It),∀ w2,Kept B b w1 w2→ItIn w2 x:=by
   intro x hx w2 hk
   simp only[List.mem_cons,List.not_mem_nil,or_false]at hx
   rcases hx with rfl|rfl
   ·exact HX.out.dst
   ·exact HX.out.imm
  refine (line_any B b l y _ [.n dst,.w imm] _ (Bu.keep HB1.out s2) (Nat.le_trans HS1.out s2.size) (its_new [.n dst,.w imm] _ 2 rfl rfl (by simp) HL1.out hit HS1.out) (fun w2 hk=>HL.out _ (HK1.out.trans ((Kept.since s2 HS1.out).trans hk))) HN2.out).mono ?_
  rintro e w2 h
  have H:=Lib.hid (line_close h HE.out (HK1.out.trans (Kept.since s2 HS1.out)))
  obtain rfl:=h.1
  clear h s2 hit
  go_wp2
  go_end0
  exact H.out
 ·by_cases h2:2≤op∧op≤14
  ·obtain⟨h2,h3⟩:=h2
   have e:(y:ByteArray).data.toList++([.n dst,.ns (.slice aa args.length ac) args]:List It).flatMap itS=insS (FIns.d ⟨op,dst,two,args,.slice aa args.length ac,imm⟩):=by
    rw[←HY.out]
    simp[insS,FIns.d,itS,opS,h1,h2,h3]
   have HE:=Lib.hid e
   clear e
   have HN2:=Lib.hid (show l.length+((y:ByteArray).size+(([.n dst,.ns (.slice aa args.length ac) args]:List It).flatMap itS).length)≤1000000000000 from by have h1:=HN.out;rw[←HE.out,List.length_append,bytes_len]at h1;omega)
   go_wp2_with fail
   have s2:Since w1 (w1.alloc (.cells (([.n dst,.ns (.slice aa args.length ac) args]:List It).flatMap itc).toArray 20)):=(Since.refl w1).alloc _
   have hit:∀ x∈([.n dst,.ns (.slice aa args.length ac) args]:List It),∀ w2,Kept B b w1 w2→ItIn w2 x:=by
    intro x hx w2 hk
    simp only[List.mem_cons,List.not_mem_nil,or_false]at hx
    rcases hx with rfl|rfl
    ·exact HX.out.dst
    ·exact⟨HA.out w2 (HK1.out.trans hk),HX.out.args⟩
   refine (line_any B b l y _ [.n dst,.ns (.slice aa args.length ac) args] _ (Bu.keep HB1.out s2) (Nat.le_trans HS1.out s2.size) (its_new [.n dst,.ns (.slice aa args.length ac) args] _ 2 rfl rfl (by simp) HL1.out hit HS1.out) (fun w2 hk=>HL.out _ (HK1.out.trans ((Kept.since s2 HS1.out).trans hk))) HN2.out).mono ?_
   rintro e w2 h
   have H:=Lib.hid (line_close h HE.out (HK1.out.trans (Kept.since s2 HS1.out)))
   obtain rfl:=h.1
   clear h s2 hit
   go_wp2
   go_end0
   exact H.out
  ·by_cases h15:op=15
   ·subst h15
    clear h1 h2
    have e:(y:ByteArray).data.toList++([.n dst,.ns (.slice aa args.length ac) args,.w imm]:List It).flatMap itS=insS (FIns.d ⟨15,dst,two,args,.slice aa args.length ac,imm⟩):=by
     rw[←HY.out]
     simp[insS,FIns.d,itS,opS,dS]
    have HE:=Lib.hid e
    clear e
    have HN2:=Lib.hid (show l.length+((y:ByteArray).size+(([.n dst,.ns (.slice aa args.length ac) args,.w imm]:List It).flatMap itS).length)≤1000000000000 from by have h1:=HN.out;rw[←HE.out,List.length_append,bytes_len]at h1;omega)
    go_wp2_with fail
    have s2:Since w1 (w1.alloc (.cells (([.n dst,.ns (.slice aa args.length ac) args,.w imm]:List It).flatMap itc).toArray 20)):=(Since.refl w1).alloc _
    have hit:∀ x∈([.n dst,.ns (.slice aa args.length ac) args,.w imm]:List It),∀ w2,Kept B b w1 w2→ItIn w2 x:=by
     intro x hx w2 hk
     simp only[List.mem_cons,List.not_mem_nil,or_false]at hx
     rcases hx with rfl|rfl|rfl
     ·exact HX.out.dst
     ·exact⟨HA.out w2 (HK1.out.trans hk),HX.out.args⟩
     ·exact HX.out.imm
    refine (line_any B b l y _ [.n dst,.ns (.slice aa args.length ac) args,.w imm] _ (Bu.keep HB1.out s2) (Nat.le_trans HS1.out s2.size) (its_new [.n dst,.ns (.slice aa args.length ac) args,.w imm] _ 3 rfl rfl (by simp) HL1.out hit HS1.out) (fun w2 hk=>HL.out _ (HK1.out.trans ((Kept.since s2 HS1.out).trans hk))) HN2.out).mono ?_
    rintro e w2 h
    have H:=Lib.hid (line_close h HE.out (HK1.out.trans (Kept.since s2 HS1.out)))
    obtain rfl:=h.1
    clear h s2 hit
    go_wp2
    go_end0
    exact H.out
   ·by_cases h16:op=16
    ·subst h16
     clear h1 h2 h15
     have e:(y:ByteArray).data.toList++([.ns (.slice aa args.length ac) args,.w imm]:List It).flatMap itS=insS (FIns.d ⟨16,dst,two,args,.slice aa args.length ac,imm⟩):=by
      rw[←HY.out]
      simp[insS,FIns.d,itS,opS,dS]
     have HE:=Lib.hid e
     clear e
     have HN2:=Lib.hid (show l.length+((y:ByteArray).size+(([.ns (.slice aa args.length ac) args,.w imm]:List It).flatMap itS).length)≤1000000000000 from by have h1:=HN.out;rw[←HE.out,List.length_append,bytes_len]at h1;omega)
     go_wp2_with fail
     have s2:Since w1 (w1.alloc (.cells (([.ns (.slice aa args.length ac) args,.w imm]:List It).flatMap itc).toArray 20)):=(Since.refl w1).alloc _
     have hit:∀ x∈([.ns (.slice aa args.length ac) args,.w imm]:List It),∀ w2,Kept B b w1 w2→ItIn w2 x:=by
      intro x hx w2 hk
      simp only[List.mem_cons,List.not_mem_nil,or_false]at hx
      rcases hx with rfl|rfl
      ·exact⟨HA.out w2 (HK1.out.trans hk),HX.out.args⟩
      ·exact HX.out.imm
     refine (line_any B b l y _ [.ns (.slice aa args.length ac) args,.w imm] _ (Bu.keep HB1.out s2) (Nat.le_trans HS1.out s2.size) (its_new [.ns (.slice aa args.length ac) args,.w imm] _ 2 rfl rfl (by simp) HL1.out hit HS1.out) (fun w2 hk=>HL.out _ (HK1.out.trans ((Kept.since s2 HS1.out).trans hk))) HN2.out).mono ?_
     rintro e w2 h
     have H:=Lib.hid (line_close h HE.out (HK1.out.trans (Kept.since s2 HS1.out)))
     obtain rfl:=h.1
     clear h s2 hit
     go_wp2
     go_end0
     exact H.out
    ·by_cases h17:op=17
     ·subst h17
      clear h1 h2 h15 h16
      have e:(y:ByteArray).data.toList++([.n dst,.w imm,.ns (.slice aa args.length ac) args]:List It).flatMap itS=insS (FIns.d ⟨17,dst,two,args,.slice aa args.length ac,imm⟩):=by
       rw[←HY.out]
       simp[insS,FIns.d,itS,opS,dS]
      have HE:=Lib.hid e
      clear e
      have HN2:=Lib.hid (show l.length+((y:ByteArray).size+(([.n dst,.w imm,.ns (.slice aa args.length ac) args]:List It).flatMap itS).length)≤1000000000000 from by have h1:=HN.out;rw[←HE.out,List.length_append,bytes_len]at h1;omega)
      go_wp2_with fail
      have s2:Since w1 (w1.alloc (.cells (([.n dst,.w imm,.ns (.slice aa args.length ac) args]:List It).flatMap itc).toArray 20)):=(Since.refl w1).alloc _
      have hit:∀ x∈([.n dst,.w imm,.ns (.slice aa args.length ac) args]:List It),∀ w2,Kept B b w1 w2→ItIn w2 x:=by
       intro x hx w2 hk
       simp only[List.mem_cons,List.not_mem_nil,or_false]at hx
       rcases hx with rfl|rfl|rfl
       ·exact HX.out.dst
       ·exact HX.out.imm
       ·exact⟨HA.out w2 (HK1.out.trans hk),HX.out.args⟩
      refine (line_any B b l y _ [.n dst,.w imm,.ns (.slice aa args.length ac) args] _ (Bu.keep HB1.out s2) (Nat.le_trans HS1.out s2.size) (its_new [.n dst,.w imm,.ns (.slice aa args.length ac) args] _ 3 rfl rfl (by simp) HL1.out hit HS1.out) (fun w2 hk=>HL.out _ (HK1.out.trans ((Kept.since s2 HS1.out).trans hk))) HN2.out).mono ?_
      rintro e w2 h
      have H:=Lib.hid (line_close h HE.out (HK1.out.trans (Kept.since s2 HS1.out)))
      obtain rfl:=h.1
      clear h s2 hit
      go_wp2
      go_end0
      exact H.out
     ·by_cases h18:op=18
      ·subst h18
       clear h1 h2 h15 h16 h17
       have e:(y:ByteArray).data.toList++([.n dst,.n two,.ns (.slice aa args.length ac) args]:List It).flatMap itS=insS (FIns.d ⟨18,dst,two,args,.slice aa args.length ac,imm⟩):=by
        rw[←HY.out]
        simp[insS,FIns.d,itS,opS,dS]
       have HE:=Lib.hid e
       clear e
       have HN2:=Lib.hid (show l.length+((y:ByteArray).size+(([.n dst,.n two,.ns (.slice aa args.length ac) args]:List It).flatMap itS).length)≤1000000000000 from by have h1:=HN.out;rw[←HE.out,List.length_append,bytes_len]at h1;omega)
       go_wp2_with fail
       have s2:Since w1 (w1.alloc (.cells (([.n dst,.n two,.ns (.slice aa args.length ac) args]:List It).flatMap itc).toArray 20)):=(Since.refl w1).alloc _
       have hit:∀ x∈([.n dst,.n two,.ns (.slice aa args.length ac) args]:List It),∀ w2,Kept B b w1 w2→ItIn w2 x:=by
        intro x hx w2 hk
        simp only[List.mem_cons,List.not_mem_nil,or_false]at hx
        rcases hx with rfl|rfl|rfl
        ·exact HX.out.dst
        ·exact HX.out.two
        ·exact⟨HA.out w2 (HK1.out.trans hk),HX.out.args⟩
       refine (line_any B b l y _ [.n dst,.n two,.ns (.slice aa args.length ac) args] _ (Bu.keep HB1.out s2) (Nat.le_trans HS1.out s2.size) (its_new [.n dst,.n two,.ns (.slice aa args.length ac) args] _ 3 rfl rfl (by simp) HL1.out hit HS1.out) (fun w2 hk=>HL.out _ (HK1.out.trans ((Kept.since s2 HS1.out).trans hk))) HN2.out).mono ?_
       rintro e w2 h
       have H:=Lib.hid (line_close h HE.out (HK1.out.trans (Kept.since s2 HS1.out)))
       obtain rfl:=h.1
       clear h s2 hit
       go_wp2
       go_end0
       exact H.out
      ·have h14:2≤op→¬ op≤14:=fun a b=>h2 ⟨a,b⟩
       by_cases ha:2≤op
       ·have hb:=h14 ha
        clear h14
        have e:(⟨#[63]⟩:ByteArray).data.toList++([]:List It).flatMap itS=insS (FIns.d ⟨op,dst,two,args,.slice aa args.length ac,imm⟩):=by
         simp[insS,FIns.d,h1,h15,h16,h17,h18,hb]
        have HE:=Lib.hid e
        clear e
        have HN2:=Lib.hid (show l.length+((⟨#[63]⟩:ByteArray).size+(([]:List It).flatMap itS).length)≤1000000000000 from by have h1:=HN.out;rw[←HE.out,List.length_append,bytes_len]at h1;omega)
        go_wp2_with fail
        refine (line_any B b l ⟨#[63]⟩ _ [] _ HB1.out HS1.out (fun w2 _=>.inl ⟨_,rfl,rfl⟩) (fun w2 hk=>HL.out _ (HK1.out.trans hk)) HN2.out).mono ?_
        rintro e w2 h
        have H:=Lib.hid (line_close h HE.out HK1.out)
        obtain rfl:=h.1
        clear h
        go_wp2
        go_end0
        exact H.out
       ·clear h14
        have e:(⟨#[63]⟩:ByteArray).data.toList++([]:List It).flatMap itS=insS (FIns.d ⟨op,dst,two,args,.slice aa args.length ac,imm⟩):=by
         simp[insS,FIns.d,h1,h2,h15,h16,h17,h18]
        have HE:=Lib.hid e
        clear e
        have HN2:=Lib.hid (show l.length+((⟨#[63]⟩:ByteArray).size+(([]:List It).flatMap itS).length)≤1000000000000 from by have h1:=HN.out;rw[←HE.out,List.length_append,bytes_len]at h1;omega)
        go_wp2_with fail
        refine (line_any B b l ⟨#[63]⟩ _ [] _ HB1.out HS1.out (fun w2 _=>.inl ⟨_,rfl,rfl⟩) (fun w2 hk=>HL.out _ (HK1.out.trans hk)) HN2.out).mono ?_
        rintro e w2 h
        have H:=Lib.hid (line_close h HE.out HK1.out)
        obtain rfl:=h.1
        clear h
        go_wp2
        go_end0
        exact H.out
theorem ItIn.keep {w w':World} {x : It} (h:ItIn w x) (s:Since w w'):ItIn w' x:=by
 cases x with
 | ns v l=>exact⟨Nums.keep h.1 s,h.2⟩
 | n x=>exact h
 | w x=>exact h
 | s x=>trivial
structure PrG (w wB:World) (b:Nat) (A:Bs) (W:World):Prop where
 bu:Bu w.heap.size b A W
 kept:Kept w.heap.size b wB W
 s0:Since w wB
 hw:b<wB.heap.size
 laid:LaidT w
abbrev PrS (w wB:World) (A:Bs) (W:World):Prop:=PrG w wB (w.heap.size+1) A W
theorem PrG.since {w wB:World} {b : Nat} {A : Bs} {W : World} (h:PrG w wB b A W):Since w W:=Below.trans h.s0 h.kept.below
theorem PrG.size {w wB:World} {b : Nat} {A : Bs} {W : World} (h:PrG w wB b A W):w.heap.size≤W.heap.size:=h.since.size
theorem PrG.keep {w wB:World} {b : Nat} {A : Bs} {W W':World} (h:PrG w wB b A W) (s:Since W W'):PrG w wB b A W':=⟨Bu.keep h.bu s,h.kept.trans (Kept.since s h.size),h.s0,h.hw,h.laid⟩
theorem PrG.lt {w wB:World} {b : Nat} {A : Bs} {W : World} (h:PrG w wB b A W):b<W.heap.size:=Nat.lt_of_lt_of_le h.hw h.kept.size
def PrQ (w wB:World) (b:Nat) (A:Bs) (W:World) (e:Ending) (W':World):Prop:=e=.returned (.tuple #[])∧PrG w wB b A W'∧Kept w.heap.size b W W'
theorem pr_row {w wB W:World} {b : Nat} {A : Bs} (h:PrG w wB b A W) (W1:World) (s:Since W W1) (first:ByteArray) (its:List It) (v:Value) (hR:∀ w',Kept w.heap.size b W1 w'→ItsIn w' v its) (hlen:A.length+(first.size+(its.flatMap itS).length)≤1000000000000) :
  Calls Tryz.prog 22 #[.pointer (some ⟨b,0,none⟩),.string first,v] W1 (PrQ w wB b (A++(first.data.toList++(its.flatMap itS++[10]))) W):=by
 have h1:=h.keep s
 refine (line_any w.heap.size b A first v its W1 h1.bu h1.size hR (fun w9 h9=>h.laid.keep (Below.trans h1.since h9.below)) hlen).mono ?_
 rintro e w2 ⟨rfl,h2,h3⟩
 exact⟨rfl,⟨h2,h1.kept.trans h3,h.s0,h.hw,h.laid⟩,(Kept.since s h.size).trans h3⟩
theorem pr_line {w wB W:World} {b : Nat} {A : Bs} (h:PrG w wB b A W) (first:ByteArray) (its:List It) (n:Nat) (cs:Array Value) (q:Nat) (hq:W.heap.size=q) (hcs:cs=(its.flatMap itc).toArray) (hn:n=its.length) (hm:its.length≤1000) (hit:∀ x∈its,ItIn w x) (hlen:A.length+(first.size+(its.flatMap itS).length)≤1000000000000) :
  Calls Tryz.prog 22 #[.pointer (some ⟨b,0,none⟩),.string first,.slice (some ⟨q,0,none⟩) n n] (W.alloc (.cells cs 20)) (PrQ w wB b (A++(first.data.toList++(its.flatMap itS++[10]))) W):=by
 subst hq
 exact pr_row h _ ((Since.refl W).alloc _) first its _ (its_new its cs n hcs hn hm (by have:=h.lt;omega) (fun x hx w' hk=>(hit x hx).keep (Below.trans h.since hk.below)) h.size) hlen
theorem pr_line0 {w wB W:World} {b : Nat} {A : Bs} (h:PrG w wB b A W) (first:ByteArray) (hlen:A.length+first.size≤1000000000000) :
  Calls Tryz.prog 22 #[.pointer (some ⟨b,0,none⟩),.string first,.slice none 0 0] W (PrQ w wB b (A++(first.data.toList++[10])) W):=
 pr_row h _ (Since.refl W) first [] _ (fun _ _=>.inl ⟨_,rfl,rfl⟩) (by simpa using hlen)
theorem pr_ins {w wB W:World} {b : Nat} {A : Bs} (h:PrG w wB b A W) (x:FIns) (hx:FInsIn w x) (hr:InsR x) (hlen:A.length+(insS x.d).length≤999999999999) :
  Calls Tryz.prog 24 #[.pointer (some ⟨b,0,none⟩),fiv x] W (PrQ w wB b (A++(insS x.d++[10])) W):=by
 refine (wins_any w.heap.size b A x W h.bu h.size (fun w' hk=>Nums.keep hx (Below.trans h.since hk.below)) hr (fun w9 h9=>h.laid.keep (Below.trans h.since h9.below)) hlen).mono ?_
 rintro e w2 ⟨rfl,h2,h3⟩
 exact⟨rfl,⟨h2,h.kept.trans h3,h.s0,h.hw,h.laid⟩,h3⟩
theorem pr_says {w wB W:World} {b : Nat} {A : Bs} (h:PrG w wB b A W) (h0:A≠[]):Calls Tryz.prog 26 #[.pointer (some ⟨b,0,none⟩)] W (StrQ ⟨A.toArray⟩ w):=by
 refine (bu_says _ _ A W h.bu h0).mono ?_
 rintro e w2 ⟨rfl,h2⟩
 exact⟨rfl,Below.trans h.since h2.below⟩
theorem PrQ.box {w W W':World} {b q:Nat} {cs:Array Value} {T : TypeId} (k:Kept w.heap.size b W W') (h:HeapIs W q cs T) (hq:b<q) (hT:T≠5):HeapIs W' q cs T:=h.kept k (by omega) hT
end Go.Proofs.YtmhojfpidedjeaaGreatDoor
