/- Names: those of terms, those of tiles; the program's and the document's. The document's lines of instructions and terms. (Printed by tools/gen_text/rins.py.) The document's terms. (Printed by tools/gen_text/rterm.py.) -/
import Derived.Test.YtmhojfpidedjeaaGreatDoorTq03
import Derived.Test.YtmhojfpidedjeaaGreatDoorTq05
namespace Go.Proofs.YtmhojfpidedjeaaGreatDoor
open Go.RowKit
set_option linter.unusedVariables false
def termsText:ByteArray:=⟨#[106,117,109,112,32,98,114,97,110,99,104,32,115,119,105,116,99,104,32,114,101,116,32,116,114,97,112]⟩
def StrsAt (w:World) (b:Nat) (l:List ByteArray):Prop:=b<w.heap.size∧∀ j,j<l.length→w.cell? ⟨b,0+j,none⟩=some (.string (l.getD j ByteArray.empty))
theorem strs_block (w:World) (l:List ByteArray) (T:TypeId):StrsAt (w.alloc (.cells (l.map Value.string).toArray T)) w.heap.size l:=by
 refine⟨by simp,fun j hj=>?_⟩
 have h:(l.map Value.string)[j]? = some (.string (l.getD j ByteArray.empty)):=by
  rw[List.getElem?_map,List.getElem?_eq_getElem hj,List.getD_eq_getElem?_getD,List.getElem?_eq_getElem hj]
  rfl
 simp only[World.cell?,heap_last,Nat.zero_add]
 simpa using h
theorem StrsAt.keep {w w':World} {b : Nat} {l : List ByteArray} (h:StrsAt w b l) (s:Since w w'):StrsAt w' b l:=⟨Nat.lt_of_lt_of_le h.1 s.size,fun j hj=>(s.cell (p:=⟨b,0+j,none⟩) h.1).trans (h.2 j hj)⟩
def FieldsQ (n:Nat) (l:List ByteArray) (w:World) (e:Ending) (w':World):Prop:=e=.returned (.slice (some ⟨w.heap.size,0,none⟩) n n)∧StrsAt w' w.heap.size l∧Since w w'
theorem fields_const (s : ByteArray) (n : Nat) (l : List ByteArray) (hn : l.length = n) (h : Lib.fields s.data.toList = l.map fun b => b.data.toList) (ha : s.data.toList.all (fun b => decide (b.toNat < 128)) = true) (hs : s.size < 4294967281) (w : World) (htab : Lib.TabIs Tryz.prog w "strings.asciiSpace" .u8 Lib.asciiSpaceTab) :
  Calls Tryz.prog 48 #[.string s] w (FieldsQ n l w):=by
 subst hn
 refine (Tryz.strings_Fields s w hs (fun j b hb=>by have:=List.all_eq_true.1 ha b (List.mem_of_getElem? hb);simpa using this) htab).mono ?_
 rintro e w' ⟨rfl,rfl⟩
 have e1:((Lib.fields s.data.toList).map fun l=>Value.string ⟨l.toArray⟩)=l.map Value.string:=by
  rw[h,List.map_map]
  refine List.map_congr_left fun s _=>?_
  obtain⟨⟨l⟩⟩:=s
  rfl
 rw[e1,h,List.length_map]
 exact⟨rfl,strs_block w _ _,(Since.refl _).alloc _⟩
theorem fields_terms (w : World) (htab : Lib.TabIs Tryz.prog w "strings.asciiSpace" .u8 Lib.asciiSpaceTab) : Calls Tryz.prog 48 #[.string termsText] w (FieldsQ 5 termNames w) := fields_const termsText 5 termNames rfl (by decide +kernel) (by decide +kernel) (by decide +kernel) w htab
set_option maxHeartbeats 1000000 in
set_option maxRecDepth 100000 in
theorem nth_any (n : Int) (w : World) (ho : In64 n) (htab : Lib.TabIs Tryz.prog w "strings.asciiSpace" .u8 Lib.asciiSpaceTab) :
  Calls Tryz.prog 25 #[.string termsText,.int .i64 n] w (StrQ (termB n) w):=by
 unfold In64 at ho
 obtain⟨t,ht⟩:∃ t,termsText=t:=⟨_,rfl⟩
 have HF:=Lib.hid (fields_terms w htab)
 rw[ht]at HF ⊢
 obtain⟨y,hy⟩:∃ y,termB n=y:=⟨_,rfl⟩
 have HY:=Lib.hid hy
 rw[hy]
 clear hy htab ht
 by_cases h1:n<1
 ·obtain rfl:⟨#[63]⟩=y:=by rw[←HY.out];unfold termB;rw[if_pos (.inl h1)]
  go_enter Tryz.func25,Tryz.ntmps25
  go_wp2_with fail
  refine HF.out.mono ?_
  rintro e w1 ⟨rfl,hn,hb⟩
  have HB:=Lib.hid hb
  clear hn hb
  go_wp2
  go_ret
  exact⟨rfl,HB.out⟩
 ·by_cases h2:5<n
  ·obtain rfl:⟨#[63]⟩=y:=by rw[←HY.out];unfold termB;rw[if_pos (.inr h2)]
   go_enter Tryz.func25,Tryz.ntmps25
   go_wp2_with fail
   refine HF.out.mono ?_
   rintro e w1 ⟨rfl,hn,hb⟩
   have HB:=Lib.hid hb
   clear hn hb
   go_wp2
   go_ret
   exact⟨rfl,HB.out⟩
  ·obtain⟨k,rfl⟩:∃ k:Nat,n=(k:Int)+1:=⟨(n-1).toNat,by omega⟩
   have hk:k<5:=by omega
   have he:termB ((k:Int)+1)=termNames.getD k ByteArray.empty:=by unfold termB;rw[if_neg (by omega),show ((k:Int)+1-1).toNat=k from by omega]
   rw[he]at HY
   clear he
   go_enter Tryz.func25,Tryz.ntmps25
   go_wp2_with fail
   refine HF.out.mono ?_
   rintro e w1 ⟨rfl,hn,hb⟩
   have hc:w1.cell? ⟨w.heap.size,0+k,none⟩=some (.string y):=by rw[←HY.out];exact hn.2 k hk
   rw[Nat.zero_add]at hc
   have hl:=hn.1
   have HB:=Lib.hid hb
   clear hn hb
   go_wp2
   go_ret
   exact⟨rfl,HB.out⟩
theorem since_setRow {w0 w:World} (s:Since w0 w) {g : Nat} (hg:w0.heap.size≤g) (cs:Array Value):Since w0 (w.setRow g cs):=
 Below.trans s ⟨rfl,rfl,rfl,by simp[World.setRow],fun i hi=>setRow_other w g i cs (by omega)⟩
theorem in64 {x : Int} (h:In32W x):In64 x:=⟨by have:=h.1;omega,by have:=h.2;omega⟩
set_option maxHeartbeats 8000000 in
set_option maxRecDepth 100000 in
theorem rins25_any (x:FIns) (w:World) (hA:FInsIn w x) (hx:InsR x) (hn:(insS x.d).length≤1000000000):Calls Tryz.prog 28 #[fiv x] w (StrQ ⟨(insS x.d).toArray⟩ w):=by
 obtain⟨op,dst,two,args,av,imm⟩:=x
 replace hA:Ints w av args:=hA
 obtain⟨aa,ac,e⟩:=nums_lenI hA
 obtain rfl:av=.slice aa args.length ac:=e
 unfold fiv
 have HA:=Lib.hid hA
 have HX:=Lib.hid hx
 have HN:=Lib.hid hn
 have hi1:=hx.imm.1
 have hi2:=hx.imm.2
 dsimp only at hi1 hi2
 clear hA hx hn
 obtain⟨y,hy⟩:∃ y,nameF op=y:=⟨_,rfl⟩
 have HY:=Lib.hid hy
 have hnm:=fun w1=>rname_any op w1 HX.out.op
 rw[hy]at hnm
 have HNM:=Lib.hid hnm
 clear hnm hy
 go_enter Tryz.func28,Tryz.ntmps28
 go_wp2_with fail
 refine (HNM.out _).mono ?_
 rintro e w1 ⟨rfl,hs⟩
 have hx1:=(HeapIs.new w #[.int .i64 op,.int .i64 dst,.int .i64 two,.slice aa args.length ac,.int .i32 imm] 51).keep hs
 have HQ:=Lib.hid hx1
 have HSW:=Lib.hid (((Since.refl w).alloc (.cells #[.int .i64 op,.int .i64 dst,.int .i64 two,.slice aa args.length ac,.int .i32 imm] 51)).trans hs)
 have c0:w1.cell? ⟨w.heap.size,0,none⟩=some (.int .i64 op):=hx1.cell 0
 have hl1:=hx1.lt
 clear hs hx1
 by_cases h1:op=1
 ·subst h1
  obtain⟨z0,hz0⟩:∃ z:ByteArray,⟨(dS dst).toArray⟩=z:=⟨_,rfl⟩
  have hd0:=fun W (_:Since w W)=>rd_any dst W HX.out.dst
  rw[hz0]at hd0
  have HD0:=Lib.hid hd0
  obtain⟨z1,hz1⟩:∃ z:ByteArray,⟨(dS imm).toArray⟩=z:=⟨_,rfl⟩
  have hd1:=fun W (_:Since w W)=>rd_any imm W (in64 HX.out.imm)
  rw[hz1]at hd1
  have HD1:=Lib.hid hd1
  have he:y++z0++z1=⟨(insS (FIns.d ⟨1,dst,two,args,.slice aa args.length ac,imm⟩)).toArray⟩:=by
   apply bytes_ext
   rw[bytes_app,bytes_app,←HY.out,←hz0,←hz1]
   simp[insS,FIns.d,opS,dS]
  have HE:=Lib.hid he
  have hsz:y.size+z0.size+z1.size≤1000000000:=by
   have h1:=HN.out
   rw[←bs_size,←he]at h1
   simpa only [ByteArray.size_append]using h1
  have hf0:¬ 9223372036854775807<y.size+z0.size:=by omega
  have hf1:¬ 9223372036854775807<y.size+z0.size+z1.size:=by omega
  clear hsz he hz0 hd0 hz1 hd1
  go_wp2_with fail
  clear c0 hl1
  refine wp_region_list_facts rfl (by decide +kernel) (by decide +kernel)
   [Is (.string y),Is (.pointer (some ⟨w.heap.size,1,none⟩)),Is (.int .i64 dst),Is (.string z0),Is (.string (y++z0)),Is (.pointer (some ⟨w.heap.size,4,none⟩)),Is (.int .i32 imm),Is (.int .i64 imm),Is (.string z1),Is (.string (y++z0++z1)),Is (.string (y++z0++z1))]
   (by repeat (first | exact trivial | refine⟨Is.stable _,?_⟩ | refine⟨IsNums.stable _ _,?_⟩ | refine⟨IsRows.stable _ _,?_⟩)) ⟨?_,?_,?_,?_,?_,?_,?_,?_,?_,?_,?_,trivial⟩ ?_
  all_goals
   intro vs w9 hs hk
   simp only[putAll,Act.put,Knows,KnowsAll,nthF,Is,List.setIfInBounds_toArray,List.set_cons_zero,List.set_cons_succ,Nat.reduceAdd,List.length_cons,List.length_nil]at hk ⊢
   try simp only[hk]
  ·go_wp2
   exact⟨_,rfl,rfl,Since.refl _⟩
  ·go_wp2
   exact⟨_,rfl,rfl,Since.refl _⟩
  ·have hq:=HQ.out.keep hs
   have hqc:w9.cell? ⟨w.heap.size,1,none⟩=some (.int .i64 dst):=hq.cell 1
   have hql:=hq.lt
   go_wp2
   exact⟨_,rfl,rfl,Since.refl _⟩
  ·go_wp2_with fail
   refine (HD0.out _ (HSW.out.trans hs)).mono ?_
   rintro e w2 ⟨rfl,hs2⟩
   go_wp2
   exact⟨_,rfl,rfl,hs2⟩
  ·go_wp2
   exact⟨_,rfl,rfl,Since.refl _⟩
  ·go_wp2
   exact⟨_,rfl,rfl,Since.refl _⟩
  ·have hq:=HQ.out.keep hs
   have hqc:w9.cell? ⟨w.heap.size,4,none⟩=some (.int .i32 imm):=hq.cell 4
   have hql:=hq.lt
   go_wp2
   exact⟨_,rfl,rfl,Since.refl _⟩
  ·go_wp2
   exact⟨_,rfl,rfl,Since.refl _⟩
  ·go_wp2_with fail
   refine (HD1.out _ (HSW.out.trans hs)).mono ?_
   rintro e w2 ⟨rfl,hs2⟩
   go_wp2
   exact⟨_,rfl,rfl,hs2⟩
  ·go_wp2
   exact⟨_,rfl,rfl,Since.refl _⟩
  ·go_wp2
   exact⟨_,rfl,rfl,Since.refl _⟩
  ·rw[HE.out]
   have HS9:=Lib.hid (HSW.out.trans hs)
   clear hs hk
   go_wp2
   go_ret
   exact⟨rfl,HS9.out⟩
 ·by_cases h2:2≤op∧op≤14
  ·obtain⟨h2,h3⟩:=h2
   have e1:(op==1)=false:=by simpa using h1
   obtain⟨z0,hz0⟩:∃ z:ByteArray,⟨(dS dst).toArray⟩=z:=⟨_,rfl⟩
   have hd0:=fun W (_:Since w W)=>rd_any dst W HX.out.dst
   rw[hz0]at hd0
   have HD0:=Lib.hid hd0
   obtain⟨z1,hz1⟩:∃ z:ByteArray,⟨(allS args).toArray⟩=z:=⟨_,rfl⟩
   have HL1:=Lib.hid (show (allS args).length≤1000000000 from by have:=HN.out;simp only[insS,FIns.d,h1,h2,h3]at this;simp at this;omega)
   have hd1:=fun W (h:Since w W)=>rall_any (.slice aa args.length ac) args W (Nums.keep HA.out h) HX.out.args (by have:=HL1.out;omega)
   rw[hz1]at hd1
   have HD1:=Lib.hid hd1
   have he:y++z0++z1=⟨(insS (FIns.d ⟨op,dst,two,args,.slice aa args.length ac,imm⟩)).toArray⟩:=by
    apply bytes_ext
    rw[bytes_app,bytes_app,←HY.out,←hz0,←hz1]
    simp[insS,FIns.d,opS,h1,h2,h3]
   have HE:=Lib.hid he
   have hsz:y.size+z0.size+z1.size≤1000000000:=by
    have h1:=HN.out
    rw[←bs_size,←he]at h1
    simpa only [ByteArray.size_append]using h1
   have hf0:¬ 9223372036854775807<y.size+z0.size:=by omega
   have hf1:¬ 9223372036854775807<y.size+z0.size+z1.size:=by omega
   clear hsz he hz0 hd0 hz1 hd1
   clear h1
   go_wp2_with fail
   clear c0 hl1 e1 h2 h3
   refine wp_region_list_facts rfl (by decide +kernel) (by decide +kernel)
    [Is (.string y),Is (.pointer (some ⟨w.heap.size,1,none⟩)),Is (.int .i64 dst),Is (.string z0),Is (.string (y++z0)),Is (.pointer (some ⟨w.heap.size,3,none⟩)),Is (.slice aa args.length ac),Is (.string z1),Is (.string (y++z0++z1)),Is (.string (y++z0++z1))]
    (by repeat (first | exact trivial | refine⟨Is.stable _,?_⟩ | refine⟨IsNums.stable _ _,?_⟩ | refine⟨IsRows.stable _ _,?_⟩)) ⟨?_,?_,?_,?_,?_,?_,?_,?_,?_,?_,trivial⟩ ?_
   all_goals
    intro vs w9 hs hk
    simp only[putAll,Act.put,Knows,KnowsAll,nthF,Is,List.setIfInBounds_toArray,List.set_cons_zero,List.set_cons_succ,Nat.reduceAdd,List.length_cons,List.length_nil]at hk ⊢
    try simp only[hk]
   ·go_wp2
    exact⟨_,rfl,rfl,Since.refl _⟩
   ·go_wp2
    exact⟨_,rfl,rfl,Since.refl _⟩
   ·have hq:=HQ.out.keep hs
    have hqc:w9.cell? ⟨w.heap.size,1,none⟩=some (.int .i64 dst):=hq.cell 1
    have hql:=hq.lt
    go_wp2
    exact⟨_,rfl,rfl,Since.refl _⟩
   ·go_wp2_with fail
    refine (HD0.out _ (HSW.out.trans hs)).mono ?_
    rintro e w2 ⟨rfl,hs2⟩
    go_wp2
    exact⟨_,rfl,rfl,hs2⟩
   ·go_wp2
    exact⟨_,rfl,rfl,Since.refl _⟩
   ·go_wp2
    exact⟨_,rfl,rfl,Since.refl _⟩
   ·have hq:=HQ.out.keep hs
    have hqc:w9.cell? ⟨w.heap.size,3,none⟩=some (.slice aa args.length ac):=hq.cell 3
    have hql:=hq.lt
    go_wp2
    exact⟨_,rfl,rfl,Since.refl _⟩
   ·go_wp2_with fail
    refine (HD1.out _ (HSW.out.trans hs)).mono ?_
    rintro e w2 ⟨rfl,hs2⟩
    go_wp2
    exact⟨_,rfl,rfl,hs2⟩
   ·go_wp2
    exact⟨_,rfl,rfl,Since.refl _⟩
   ·go_wp2
    exact⟨_,rfl,rfl,Since.refl _⟩
   ·rw[HE.out]
    have HS9:=Lib.hid (HSW.out.trans hs)
    clear hs hk
    go_wp2
    go_ret
    exact⟨rfl,HS9.out⟩
  ·by_cases h15:op=15
   ·subst h15
    clear h1 h2
    obtain⟨z0,hz0⟩:∃ z:ByteArray,⟨(dS dst).toArray⟩=z:=⟨_,rfl⟩
    have hd0:=fun W (_:Since w W)=>rd_any dst W HX.out.dst
    rw[hz0]at hd0
    have HD0:=Lib.hid hd0
    obtain⟨z1,hz1⟩:∃ z:ByteArray,⟨(allS args).toArray⟩=z:=⟨_,rfl⟩
    have HL1:=Lib.hid (show (allS args).length≤1000000000 from by have:=HN.out;simp only[insS,FIns.d,dS]at this;simp at this;omega)
    have hd1:=fun W (h:Since w W)=>rall_any (.slice aa args.length ac) args W (Nums.keep HA.out h) HX.out.args (by have:=HL1.out;omega)
    rw[hz1]at hd1
    have HD1:=Lib.hid hd1
    obtain⟨z2,hz2⟩:∃ z:ByteArray,⟨(dS imm).toArray⟩=z:=⟨_,rfl⟩
    have hd2:=fun W (_:Since w W)=>rd_any imm W (in64 HX.out.imm)
    rw[hz2]at hd2
    have HD2:=Lib.hid hd2
    have he:y++z0++z1++z2=⟨(insS (FIns.d ⟨15,dst,two,args,.slice aa args.length ac,imm⟩)).toArray⟩:=by
     apply bytes_ext
     rw[bytes_app,bytes_app,bytes_app,←HY.out,←hz0,←hz1,←hz2]
     simp[insS,FIns.d,opS,dS]
    have HE:=Lib.hid he
    have hsz:y.size+z0.size+z1.size+z2.size≤1000000000:=by
     have h1:=HN.out
     rw[←bs_size,←he]at h1
     simpa only [ByteArray.size_append]using h1
    have hf0:¬ 9223372036854775807<y.size+z0.size:=by omega
    have hf1:¬ 9223372036854775807<y.size+z0.size+z1.size:=by omega
    have hf2:¬ 9223372036854775807<y.size+z0.size+z1.size+z2.size:=by omega
    clear hsz he hz0 hd0 hz1 hd1 hz2 hd2
    go_wp2_with fail
    clear c0 hl1
    refine wp_region_list_facts rfl (by decide +kernel) (by decide +kernel)
     [Is (.string y),Is (.pointer (some ⟨w.heap.size,1,none⟩)),Is (.int .i64 dst),Is (.string z0),Is (.string (y++z0)),Is (.pointer (some ⟨w.heap.size,3,none⟩)),Is (.slice aa args.length ac),Is (.string z1),Is (.string (y++z0++z1)),Is (.pointer (some ⟨w.heap.size,4,none⟩)),Is (.int .i32 imm),Is (.int .i64 imm),Is (.string z2),Is (.string (y++z0++z1++z2)),Is (.string (y++z0++z1++z2))]
     (by repeat (first | exact trivial | refine⟨Is.stable _,?_⟩ | refine⟨IsNums.stable _ _,?_⟩ | refine⟨IsRows.stable _ _,?_⟩)) ⟨?_,?_,?_,?_,?_,?_,?_,?_,?_,?_,?_,?_,?_,?_,?_,trivial⟩ ?_
    all_goals
     intro vs w9 hs hk
     simp only[putAll,Act.put,Knows,KnowsAll,nthF,Is,List.setIfInBounds_toArray,List.set_cons_zero,List.set_cons_succ,Nat.reduceAdd,List.length_cons,List.length_nil]at hk ⊢
     try simp only[hk]
    ·go_wp2
     exact⟨_,rfl,rfl,Since.refl _⟩
    ·go_wp2
     exact⟨_,rfl,rfl,Since.refl _⟩
    ·have hq:=HQ.out.keep hs
     have hqc:w9.cell? ⟨w.heap.size,1,none⟩=some (.int .i64 dst):=hq.cell 1
     have hql:=hq.lt
     go_wp2
     exact⟨_,rfl,rfl,Since.refl _⟩
    ·go_wp2_with fail
     refine (HD0.out _ (HSW.out.trans hs)).mono ?_
     rintro e w2 ⟨rfl,hs2⟩
     go_wp2
     exact⟨_,rfl,rfl,hs2⟩
    ·go_wp2
     exact⟨_,rfl,rfl,Since.refl _⟩
    ·go_wp2
     exact⟨_,rfl,rfl,Since.refl _⟩
    ·have hq:=HQ.out.keep hs
     have hqc:w9.cell? ⟨w.heap.size,3,none⟩=some (.slice aa args.length ac):=hq.cell 3
     have hql:=hq.lt
     go_wp2
     exact⟨_,rfl,rfl,Since.refl _⟩
    ·go_wp2_with fail
     refine (HD1.out _ (HSW.out.trans hs)).mono ?_
     rintro e w2 ⟨rfl,hs2⟩
     go_wp2
     exact⟨_,rfl,rfl,hs2⟩
    ·go_wp2
     exact⟨_,rfl,rfl,Since.refl _⟩
    ·go_wp2
     exact⟨_,rfl,rfl,Since.refl _⟩
    ·have hq:=HQ.out.keep hs
     have hqc:w9.cell? ⟨w.heap.size,4,none⟩=some (.int .i32 imm):=hq.cell 4
     have hql:=hq.lt
     go_wp2
     exact⟨_,rfl,rfl,Since.refl _⟩
    ·go_wp2
     exact⟨_,rfl,rfl,Since.refl _⟩
    ·go_wp2_with fail
     refine (HD2.out _ (HSW.out.trans hs)).mono ?_
     rintro e w2 ⟨rfl,hs2⟩
     go_wp2
     exact⟨_,rfl,rfl,hs2⟩
    ·go_wp2
     exact⟨_,rfl,rfl,Since.refl _⟩
    ·go_wp2
     exact⟨_,rfl,rfl,Since.refl _⟩
    ·rw[HE.out]
     have HS9:=Lib.hid (HSW.out.trans hs)
     clear hs hk
     go_wp2
     go_ret
     exact⟨rfl,HS9.out⟩
   ·by_cases h16:op=16
    ·subst h16
     clear h1 h2 h15
     obtain⟨z0,hz0⟩:∃ z:ByteArray,⟨(allS args).toArray⟩=z:=⟨_,rfl⟩
     have HL0:=Lib.hid (show (allS args).length≤1000000000 from by have:=HN.out;simp only[insS,FIns.d,dS]at this;simp at this;omega)
     have hd0:=fun W (h:Since w W)=>rall_any (.slice aa args.length ac) args W (Nums.keep HA.out h) HX.out.args (by have:=HL0.out;omega)
     rw[hz0]at hd0
     have HD0:=Lib.hid hd0
     obtain⟨z1,hz1⟩:∃ z:ByteArray,⟨(dS imm).toArray⟩=z:=⟨_,rfl⟩
     have hd1:=fun W (_:Since w W)=>rd_any imm W (in64 HX.out.imm)
     rw[hz1]at hd1
     have HD1:=Lib.hid hd1
     have he:y++z0++z1=⟨(insS (FIns.d ⟨16,dst,two,args,.slice aa args.length ac,imm⟩)).toArray⟩:=by
      apply bytes_ext
      rw[bytes_app,bytes_app,←HY.out,←hz0,←hz1]
      simp[insS,FIns.d,opS,dS]
     have HE:=Lib.hid he
     have hsz:y.size+z0.size+z1.size≤1000000000:=by
      have h1:=HN.out
      rw[←bs_size,←he]at h1
      simpa only [ByteArray.size_append]using h1
     have hf0:¬ 9223372036854775807<y.size+z0.size:=by omega
     have hf1:¬ 9223372036854775807<y.size+z0.size+z1.size:=by omega
     clear hsz he hz0 hd0 hz1 hd1
     go_wp2_with fail
     clear c0 hl1
     refine wp_region_list_facts rfl (by decide +kernel) (by decide +kernel)
      [Is (.string y),Is (.pointer (some ⟨w.heap.size,3,none⟩)),Is (.slice aa args.length ac),Is (.string z0),Is (.string (y++z0)),Is (.pointer (some ⟨w.heap.size,4,none⟩)),Is (.int .i32 imm),Is (.int .i64 imm),Is (.string z1),Is (.string (y++z0++z1)),Is (.string (y++z0++z1))]
      (by repeat (first | exact trivial | refine⟨Is.stable _,?_⟩ | refine⟨IsNums.stable _ _,?_⟩ | refine⟨IsRows.stable _ _,?_⟩)) ⟨?_,?_,?_,?_,?_,?_,?_,?_,?_,?_,?_,trivial⟩ ?_
     all_goals
      intro vs w9 hs hk
      simp only[putAll,Act.put,Knows,KnowsAll,nthF,Is,List.setIfInBounds_toArray,List.set_cons_zero,List.set_cons_succ,Nat.reduceAdd,List.length_cons,List.length_nil]at hk ⊢
      try simp only[hk]
     ·go_wp2
      exact⟨_,rfl,rfl,Since.refl _⟩
     ·go_wp2
      exact⟨_,rfl,rfl,Since.refl _⟩
     ·have hq:=HQ.out.keep hs
      have hqc:w9.cell? ⟨w.heap.size,3,none⟩=some (.slice aa args.length ac):=hq.cell 3
      have hql:=hq.lt
      go_wp2
      exact⟨_,rfl,rfl,Since.refl _⟩
     ·go_wp2_with fail
      refine (HD0.out _ (HSW.out.trans hs)).mono ?_
      rintro e w2 ⟨rfl,hs2⟩
      go_wp2
      exact⟨_,rfl,rfl,hs2⟩
     ·go_wp2
      exact⟨_,rfl,rfl,Since.refl _⟩
     ·go_wp2
      exact⟨_,rfl,rfl,Since.refl _⟩
     ·have hq:=HQ.out.keep hs
      have hqc:w9.cell? ⟨w.heap.size,4,none⟩=some (.int .i32 imm):=hq.cell 4
      have hql:=hq.lt
      go_wp2
      exact⟨_,rfl,rfl,Since.refl _⟩
     ·go_wp2
      exact⟨_,rfl,rfl,Since.refl _⟩
     ·go_wp2_with fail
      refine (HD1.out _ (HSW.out.trans hs)).mono ?_
      rintro e w2 ⟨rfl,hs2⟩
      go_wp2
      exact⟨_,rfl,rfl,hs2⟩
     ·go_wp2
      exact⟨_,rfl,rfl,Since.refl _⟩
     ·go_wp2
      exact⟨_,rfl,rfl,Since.refl _⟩
     ·rw[HE.out]
      have HS9:=Lib.hid (HSW.out.trans hs)
      clear hs hk
      go_wp2
      go_ret
      exact⟨rfl,HS9.out⟩
    ·by_cases h17:op=17
     ·subst h17
      clear h1 h2 h15 h16
      obtain⟨z0,hz0⟩:∃ z:ByteArray,⟨(dS dst).toArray⟩=z:=⟨_,rfl⟩
      have hd0:=fun W (_:Since w W)=>rd_any dst W HX.out.dst
      rw[hz0]at hd0
      have HD0:=Lib.hid hd0
      obtain⟨z1,hz1⟩:∃ z:ByteArray,⟨(dS imm).toArray⟩=z:=⟨_,rfl⟩
      have hd1:=fun W (_:Since w W)=>rd_any imm W (in64 HX.out.imm)
      rw[hz1]at hd1
      have HD1:=Lib.hid hd1
      obtain⟨z2,hz2⟩:∃ z:ByteArray,⟨(allS args).toArray⟩=z:=⟨_,rfl⟩
      have HL2:=Lib.hid (show (allS args).length≤1000000000 from by have:=HN.out;simp only[insS,FIns.d,dS]at this;simp at this;omega)
      have hd2:=fun W (h:Since w W)=>rall_any (.slice aa args.length ac) args W (Nums.keep HA.out h) HX.out.args (by have:=HL2.out;omega)
      rw[hz2]at hd2
      have HD2:=Lib.hid hd2
      have he:y++z0++z1++z2=⟨(insS (FIns.d ⟨17,dst,two,args,.slice aa args.length ac,imm⟩)).toArray⟩:=by
       apply bytes_ext
       rw[bytes_app,bytes_app,bytes_app,←HY.out,←hz0,←hz1,←hz2]
       simp[insS,FIns.d,opS,dS]
      have HE:=Lib.hid he
      have hsz:y.size+z0.size+z1.size+z2.size≤1000000000:=by
       have h1:=HN.out
       rw[←bs_size,←he]at h1
       simpa only [ByteArray.size_append]using h1
      have hf0:¬ 9223372036854775807<y.size+z0.size:=by omega
      have hf1:¬ 9223372036854775807<y.size+z0.size+z1.size:=by omega
      have hf2:¬ 9223372036854775807<y.size+z0.size+z1.size+z2.size:=by omega
      clear hsz he hz0 hd0 hz1 hd1 hz2 hd2
      go_wp2_with fail
      clear c0 hl1
      refine wp_region_list_facts rfl (by decide +kernel) (by decide +kernel)
       [Is (.string y),Is (.pointer (some ⟨w.heap.size,1,none⟩)),Is (.int .i64 dst),Is (.string z0),Is (.string (y++z0)),Is (.pointer (some ⟨w.heap.size,4,none⟩)),Is (.int .i32 imm),Is (.int .i64 imm),Is (.string z1),Is (.string (y++z0++z1)),Is (.pointer (some ⟨w.heap.size,3,none⟩)),Is (.slice aa args.length ac),Is (.string z2),Is (.string (y++z0++z1++z2)),Is (.string (y++z0++z1++z2))]
       (by repeat (first | exact trivial | refine⟨Is.stable _,?_⟩ | refine⟨IsNums.stable _ _,?_⟩ | refine⟨IsRows.stable _ _,?_⟩)) ⟨?_,?_,?_,?_,?_,?_,?_,?_,?_,?_,?_,?_,?_,?_,?_,trivial⟩ ?_
      all_goals
       intro vs w9 hs hk
       simp only[putAll,Act.put,Knows,KnowsAll,nthF,Is,List.setIfInBounds_toArray,List.set_cons_zero,List.set_cons_succ,Nat.reduceAdd,List.length_cons,List.length_nil]at hk ⊢
       try simp only[hk]
      ·go_wp2
       exact⟨_,rfl,rfl,Since.refl _⟩
      ·go_wp2
       exact⟨_,rfl,rfl,Since.refl _⟩
      ·have hq:=HQ.out.keep hs
       have hqc:w9.cell? ⟨w.heap.size,1,none⟩=some (.int .i64 dst):=hq.cell 1
       have hql:=hq.lt
       go_wp2
       exact⟨_,rfl,rfl,Since.refl _⟩
      ·go_wp2_with fail
       refine (HD0.out _ (HSW.out.trans hs)).mono ?_
       rintro e w2 ⟨rfl,hs2⟩
       go_wp2
       exact⟨_,rfl,rfl,hs2⟩
      ·go_wp2
       exact⟨_,rfl,rfl,Since.refl _⟩
      ·go_wp2
       exact⟨_,rfl,rfl,Since.refl _⟩
      ·have hq:=HQ.out.keep hs
       have hqc:w9.cell? ⟨w.heap.size,4,none⟩=some (.int .i32 imm):=hq.cell 4
       have hql:=hq.lt
       go_wp2
       exact⟨_,rfl,rfl,Since.refl _⟩
      ·go_wp2
       exact⟨_,rfl,rfl,Since.refl _⟩
      ·go_wp2_with fail
       refine (HD1.out _ (HSW.out.trans hs)).mono ?_
       rintro e w2 ⟨rfl,hs2⟩
       go_wp2
       exact⟨_,rfl,rfl,hs2⟩
      ·go_wp2
       exact⟨_,rfl,rfl,Since.refl _⟩
      ·go_wp2
       exact⟨_,rfl,rfl,Since.refl _⟩
      ·have hq:=HQ.out.keep hs
       have hqc:w9.cell? ⟨w.heap.size,3,none⟩=some (.slice aa args.length ac):=hq.cell 3
       have hql:=hq.lt
       go_wp2
       exact⟨_,rfl,rfl,Since.refl _⟩
      ·go_wp2_with fail
       refine (HD2.out _ (HSW.out.trans hs)).mono ?_
       rintro e w2 ⟨rfl,hs2⟩
       go_wp2
       exact⟨_,rfl,rfl,hs2⟩
      ·go_wp2
       exact⟨_,rfl,rfl,Since.refl _⟩
      ·go_wp2
       exact⟨_,rfl,rfl,Since.refl _⟩
      ·rw[HE.out]
       have HS9:=Lib.hid (HSW.out.trans hs)
       clear hs hk
       go_wp2
       go_ret
       exact⟨rfl,HS9.out⟩
     ·by_cases h18:op=18
      ·subst h18
       clear h1 h2 h15 h16 h17
       obtain⟨z0,hz0⟩:∃ z:ByteArray,⟨(dS dst).toArray⟩=z:=⟨_,rfl⟩
       have hd0:=fun W (_:Since w W)=>rd_any dst W HX.out.dst
       rw[hz0]at hd0
       have HD0:=Lib.hid hd0
       obtain⟨z1,hz1⟩:∃ z:ByteArray,⟨(dS two).toArray⟩=z:=⟨_,rfl⟩
       have hd1:=fun W (_:Since w W)=>rd_any two W HX.out.two
       rw[hz1]at hd1
       have HD1:=Lib.hid hd1
       obtain⟨z2,hz2⟩:∃ z:ByteArray,⟨(allS args).toArray⟩=z:=⟨_,rfl⟩
       have HL2:=Lib.hid (show (allS args).length≤1000000000 from by have:=HN.out;simp only[insS,FIns.d,dS]at this;simp at this;omega)
       have hd2:=fun W (h:Since w W)=>rall_any (.slice aa args.length ac) args W (Nums.keep HA.out h) HX.out.args (by have:=HL2.out;omega)
       rw[hz2]at hd2
       have HD2:=Lib.hid hd2
       have he:y++z0++z1++z2=⟨(insS (FIns.d ⟨18,dst,two,args,.slice aa args.length ac,imm⟩)).toArray⟩:=by
        apply bytes_ext
        rw[bytes_app,bytes_app,bytes_app,←HY.out,←hz0,←hz1,←hz2]
        simp[insS,FIns.d,opS,dS]
       have HE:=Lib.hid he
       have hsz:y.size+z0.size+z1.size+z2.size≤1000000000:=by
        have h1:=HN.out
        rw[←bs_size,←he]at h1
        simpa only [ByteArray.size_append]using h1
       have hf0:¬ 9223372036854775807<y.size+z0.size:=by omega
       have hf1:¬ 9223372036854775807<y.size+z0.size+z1.size:=by omega
       have hf2:¬ 9223372036854775807<y.size+z0.size+z1.size+z2.size:=by omega
       clear hsz he hz0 hd0 hz1 hd1 hz2 hd2
       go_wp2_with fail
       clear c0 hl1
       refine wp_region_list_facts rfl (by decide +kernel) (by decide +kernel)
        [Is (.string y),Is (.pointer (some ⟨w.heap.size,1,none⟩)),Is (.int .i64 dst),Is (.string z0),Is (.string (y++z0)),Is (.pointer (some ⟨w.heap.size,2,none⟩)),Is (.int .i64 two),Is (.string z1),Is (.string (y++z0++z1)),Is (.pointer (some ⟨w.heap.size,3,none⟩)),Is (.slice aa args.length ac),Is (.string z2),Is (.string (y++z0++z1++z2)),Is (.string (y++z0++z1++z2))]
        (by repeat (first | exact trivial | refine⟨Is.stable _,?_⟩ | refine⟨IsNums.stable _ _,?_⟩ | refine⟨IsRows.stable _ _,?_⟩)) ⟨?_,?_,?_,?_,?_,?_,?_,?_,?_,?_,?_,?_,?_,?_,trivial⟩ ?_
       all_goals
        intro vs w9 hs hk
        simp only[putAll,Act.put,Knows,KnowsAll,nthF,Is,List.setIfInBounds_toArray,List.set_cons_zero,List.set_cons_succ,Nat.reduceAdd,List.length_cons,List.length_nil]at hk ⊢
        try simp only[hk]
       ·go_wp2
        exact⟨_,rfl,rfl,Since.refl _⟩
       ·go_wp2
        exact⟨_,rfl,rfl,Since.refl _⟩
       ·have hq:=HQ.out.keep hs
        have hqc:w9.cell? ⟨w.heap.size,1,none⟩=some (.int .i64 dst):=hq.cell 1
        have hql:=hq.lt
        go_wp2
        exact⟨_,rfl,rfl,Since.refl _⟩
       ·go_wp2_with fail
        refine (HD0.out _ (HSW.out.trans hs)).mono ?_
        rintro e w2 ⟨rfl,hs2⟩
        go_wp2
        exact⟨_,rfl,rfl,hs2⟩
       ·go_wp2
        exact⟨_,rfl,rfl,Since.refl _⟩
       ·go_wp2
        exact⟨_,rfl,rfl,Since.refl _⟩
       ·have hq:=HQ.out.keep hs
        have hqc:w9.cell? ⟨w.heap.size,2,none⟩=some (.int .i64 two):=hq.cell 2
        have hql:=hq.lt
        go_wp2
        exact⟨_,rfl,rfl,Since.refl _⟩
       ·go_wp2_with fail
        refine (HD1.out _ (HSW.out.trans hs)).mono ?_
        rintro e w2 ⟨rfl,hs2⟩
        go_wp2
        exact⟨_,rfl,rfl,hs2⟩
       ·go_wp2
        exact⟨_,rfl,rfl,Since.refl _⟩
       ·go_wp2
        exact⟨_,rfl,rfl,Since.refl _⟩
       ·have hq:=HQ.out.keep hs
        have hqc:w9.cell? ⟨w.heap.size,3,none⟩=some (.slice aa args.length ac):=hq.cell 3
        have hql:=hq.lt
        go_wp2
        exact⟨_,rfl,rfl,Since.refl _⟩
       ·go_wp2_with fail
        refine (HD2.out _ (HSW.out.trans hs)).mono ?_
        rintro e w2 ⟨rfl,hs2⟩
        go_wp2
        exact⟨_,rfl,rfl,hs2⟩
       ·go_wp2
        exact⟨_,rfl,rfl,Since.refl _⟩
       ·go_wp2
        exact⟨_,rfl,rfl,Since.refl _⟩
       ·rw[HE.out]
        have HS9:=Lib.hid (HSW.out.trans hs)
        clear hs hk
        go_wp2
        go_ret
        exact⟨rfl,HS9.out⟩
      ·have h14:2≤op→¬ op≤14:=fun a b=>h2 ⟨a,b⟩
       by_cases ha:2≤op
       ·have hb:=h14 ha
        clear h14
        have he:(⟨#[63]⟩:ByteArray)=⟨(insS (FIns.d ⟨op,dst,two,args,.slice aa args.length ac,imm⟩)).toArray⟩:=by
         apply bytes_ext
         simp[insS,FIns.d,h1,h15,h16,h17,h18,hb]
        have HE:=Lib.hid he
        clear he
        clear h2
        go_wp2
        go_ret
        exact⟨by rw[←HE.out];rfl,HSW.out⟩
       ·clear h14
        have he:(⟨#[63]⟩:ByteArray)=⟨(insS (FIns.d ⟨op,dst,two,args,.slice aa args.length ac,imm⟩)).toArray⟩:=by
         apply bytes_ext
         simp[insS,FIns.d,h1,h2,h15,h16,h17,h18]
        have HE:=Lib.hid he
        clear he
        go_wp2
        go_ret
        exact⟨by rw[←HE.out];rfl,HSW.out⟩
theorem rterms_any (w:World):Calls Tryz.prog 51 #[] w (FieldsQ 5 termNames w):=by
 go_enter Tryz.func51,Tryz.ntmps51
 go_wp2
 go_ret
 exact⟨rfl,strs_block w termNames _,(Since.refl _).alloc _⟩
def IsStrs (n:Nat) (l:List ByteArray) (v:Value) (w:World):Prop:=∃ g,v=.slice (some ⟨g,0,none⟩) n n∧StrsAt w g l
def AtStrs (l:List ByteArray) (k:Nat) (v:Value) (w:World):Prop:=∃ g,v=.pointer (some ⟨g,k,none⟩)∧StrsAt w g l
theorem IsStrs.stable (n:Nat) (l:List ByteArray):Stable (IsStrs n l):=fun _ _ _ h hs=>by
 obtain⟨g,h1,h2⟩:=h
 exact⟨g,h1,h2.keep hs⟩
theorem AtStrs.stable (l:List ByteArray) (k:Nat):Stable (AtStrs l k):=fun _ _ _ h hs=>by
 obtain⟨g,h1,h2⟩:=h
 exact⟨g,h1,h2.keep hs⟩
def ftv (t:FTerm):Value:=.agg #[.int .i64 t.kind,t.argsv,t.tov,.int .i32 t.imm]
set_option maxHeartbeats 4000000 in
set_option maxRecDepth 100000 in
theorem rterm25_any (t:FTerm) (w:World) (hA:FTermIn w t) (hx:TermR t) (hn:(termS t.d).length≤1000000000):Calls Tryz.prog 29 #[ftv t] w (StrQ ⟨(termS t.d).toArray⟩ w):=by
 obtain⟨kd,args,argsv,tgt,tov,imm⟩:=t
 obtain⟨hA,hT⟩:=hA
 obtain⟨aa,ac,e⟩:=nums_lenI hA
 obtain rfl:argsv=.slice aa args.length ac:=e
 obtain⟨ta,tc,e⟩:=nums_lenI hT
 obtain rfl:tov=.slice ta tgt.length tc:=e
 unfold ftv
 have HA:=Lib.hid hA
 have HT:=Lib.hid hT
 have HX:=Lib.hid hx
 have HN:=Lib.hid hn
 have hi1:=hx.im.1
 have hi2:=hx.im.2
 have hk1:=hx.kd.1
 have hk2:=hx.kd.2
 dsimp only at hi1 hi2 hk1 hk2 ⊢
 have HQ0:=Lib.hid (HeapIs.new w #[.int .i64 kd,.slice aa args.length ac,.slice ta tgt.length tc,.int .i32 imm] 54)
 have HSW:=Lib.hid ((Since.refl w).alloc (.cells #[.int .i64 kd,.slice aa args.length ac,.slice ta tgt.length tc,.int .i32 imm] 54))
 clear hA hT hx hn
 by_cases h1:kd<1
 ·have he:(⟨#[63]⟩:ByteArray)=⟨(termS (FTerm.d ⟨kd,args,.slice aa args.length ac,tgt,.slice ta tgt.length tc,imm⟩)).toArray⟩:=by
   unfold termS FTerm.d;dsimp only;rw[if_pos (.inl h1)]
  have HE:=Lib.hid he
  rw[←he]
  clear he
  go_enter Tryz.func29,Tryz.ntmps29
  go_wp2
  go_ret
  exact⟨rfl,HSW.out⟩
 ·by_cases h5:5<kd
  ·have he:(⟨#[63]⟩:ByteArray)=⟨(termS (FTerm.d ⟨kd,args,.slice aa args.length ac,tgt,.slice ta tgt.length tc,imm⟩)).toArray⟩:=by
    unfold termS FTerm.d;dsimp only;rw[if_pos (.inr h5)]
   rw[←he]
   clear he
   go_enter Tryz.func29,Tryz.ntmps29
   go_wp2
   go_ret
   exact⟨rfl,HSW.out⟩
  ·by_cases hk5:kd=5
   ·subst hk5
    obtain⟨z0,hz0⟩:∃ z:ByteArray,⟨(dS imm).toArray⟩=z:=⟨_,rfl⟩
    have he:(⟨#[116,114,97,112]⟩:ByteArray)++z0=⟨(termS (FTerm.d ⟨5,args,.slice aa args.length ac,tgt,.slice ta tgt.length tc,imm⟩)).toArray⟩:=by
     rw[←hz0];exact bs_app [116,114,97,112] (dS imm)
    have hzz:¬ 9223372036854775807<4+z0.size:=by
     have h2:=dS_len imm (in64 HX.out.im)
     rw[←hz0,bs_size];omega
    rw[←he]
    have hd:=fun W=>rd_any imm W (in64 HX.out.im)
    rw[hz0]at hd
    have HD:=Lib.hid hd
    clear he hd hz0 h1 h5 hk1 hk2
    go_enter Tryz.func29,Tryz.ntmps29
    go_wp2_with fail
    refine (HD.out _).mono ?_
    rintro e w2 ⟨rfl,hs2⟩
    have HS2:=Lib.hid (HSW.out.trans hs2)
    clear hs2
    go_wp2
    go_ret
    exact⟨rfl,HS2.out⟩
   ·obtain⟨k,rfl⟩:∃ k:Nat,kd=(k:Int)+1:=⟨(kd-1).toNat,by omega⟩
    have hk4:k<4:=by omega
    obtain⟨y,hy⟩:∃ y,termNames.getD k ByteArray.empty=y:=⟨_,rfl⟩
    have HYK:=Lib.hid hy
    obtain⟨z0,hz0⟩:∃ z:ByteArray,⟨(allS args).toArray⟩=z:=⟨_,rfl⟩
    obtain⟨z1,hz1⟩:∃ z:ByteArray,⟨(allS tgt).toArray⟩=z:=⟨_,rfl⟩
    have hte:termS (FTerm.d ⟨(k:Int)+1,args,.slice aa args.length ac,tgt,.slice ta tgt.length tc,imm⟩)=y.data.toList++(allS args++allS tgt):=by
     unfold termS FTerm.d;dsimp only
     rw[if_neg (by omega),if_neg (by omega)]
     unfold termB
     rw[if_neg (by omega),show ((k:Int)+1-1).toNat=k from by omega,hy]
    have hlen:=HN.out
    rw[hte]at hlen
    simp only[List.length_append,bytes_len]at hlen
    have he:y++z0++z1=⟨(termS (FTerm.d ⟨(k:Int)+1,args,.slice aa args.length ac,tgt,.slice ta tgt.length tc,imm⟩)).toArray⟩:=by
     rw[hte]
     apply bytes_ext
     rw[bytes_app,bytes_app,←hz0,←hz1]
     simp
    have HE:=Lib.hid he
    have hs0:z0.size=(allS args).length:=by rw[←hz0];exact bs_size _
    have hs1:z1.size=(allS tgt).length:=by rw[←hz1];exact bs_size _
    have hf0:¬ 9223372036854775807<y.size+z0.size:=by omega
    have hf1:¬ 9223372036854775807<y.size+z0.size+z1.size:=by omega
    have hd0:=fun W (h:Since w W)=>rall_any (.slice aa args.length ac) args W (Nums.keep HA.out h) HX.out.ar (by omega)
    have hd1:=fun W (h:Since w W)=>rall_any (.slice ta tgt.length tc) tgt W (Nums.keep HT.out h) HX.out.tg (by omega)
    rw[hz0]at hd0
    rw[hz1]at hd1
    obtain⟨wb,hwb⟩:∃ wb,w.alloc (.cells #[.int .i64 ((k:Int)+1),.slice aa args.length ac,.slice ta tgt.length tc,.int .i32 imm] 54)=wb:=⟨_,rfl⟩
    have HQ:=HQ0
    rw[hwb]at HQ HSW
    have HD0:=Lib.hid (fun W (h:Since wb W)=>hd0 W (HSW.out.trans h))
    have HD1:=Lib.hid (fun W (h:Since wb W)=>hd1 W (HSW.out.trans h))
    have e1:((k:Int)+1==5)=false:=by simp;omega
    have HWB:=Lib.hid hwb
    clear hd0 hd1 hz0 hz1 he hlen hte hy h1 h5 hk5 hwb HQ0 hs0 hs1 hk1 hk2
    go_enter Tryz.func29,Tryz.ntmps29
    go_wp2_with fail
    rw[HWB.out]
    clear e1
    have hkk:k<5:=by omega
    refine wp_region_list_facts rfl (by decide +kernel) (by decide +kernel)
     [IsStrs 5 termNames,Is (.pointer (some ⟨w.heap.size,0,none⟩)),Is (.int .i64 ((k:Int)+1)),Is (.int .i64 k),AtStrs termNames k,Is (.string y),Is (.pointer (some ⟨w.heap.size,1,none⟩)),Is (.slice aa args.length ac),Is (.string z0),Is (.string (y++z0)),Is (.pointer (some ⟨w.heap.size,2,none⟩)),Is (.slice ta tgt.length tc),Is (.string z1),Is (.string (y++z0++z1)),Is (.string (y++z0++z1))]
     (by repeat (first | exact trivial | refine⟨Is.stable _,?_⟩ | refine⟨IsNums.stable _ _,?_⟩ | refine⟨IsRows.stable _ _,?_⟩ | refine⟨IsStrs.stable _ _,?_⟩ | refine⟨AtStrs.stable _ _,?_⟩)) ⟨?_,?_,?_,?_,?_,?_,?_,?_,?_,?_,?_,?_,?_,?_,?_,trivial⟩ ?_
    all_goals
     intro vs w9 hs hk
     simp only[putAll,Act.put,Knows,KnowsAll,nthF,Is,List.setIfInBounds_toArray,List.set_cons_zero,List.set_cons_succ,Nat.reduceAdd,List.length_cons,List.length_nil]at hk ⊢
     try simp only[hk]
    ·go_wp2_with fail
     refine (rterms_any w9).mono ?_
     rintro e w2 ⟨rfl,hn2,hb2⟩
     go_wp2
     exact⟨_,rfl,⟨_,rfl,hn2⟩,hb2⟩
    ·go_wp2
     exact⟨_,rfl,rfl,Since.refl _⟩
    ·have hq:=HQ.out.keep hs
     have hqc:w9.cell? ⟨w.heap.size,0,none⟩=some (.int .i64 ((k:Int)+1)):=hq.cell 0
     have hql:=hq.lt
     go_wp2
     exact⟨_,rfl,rfl,Since.refl _⟩
    ·go_wp2
     exact⟨_,rfl,(by first | rfl | (simp;done)),Since.refl _⟩
    ·obtain⟨⟨g,hg,hgs⟩,_⟩:=hk
     have hgl:=hgs.1
     rw[hg]
     clear hg
     go_wp2
     exact⟨_,rfl,⟨g,(by first | rfl | (simp;done)),hgs⟩,Since.refl _⟩
    ·obtain⟨⟨g,hg,hgs⟩,_⟩:=hk
     have hgl:=hgs.1
     have hgc:=hgs.2 k (by show k<5;omega)
     rw[Nat.zero_add,HYK.out]at hgc
     rw[hg]
     clear hg hgs
     go_wp2
     exact⟨_,rfl,rfl,Since.refl _⟩
    ·go_wp2
     exact⟨_,rfl,rfl,Since.refl _⟩
    ·have hq:=HQ.out.keep hs
     have hqc:w9.cell? ⟨w.heap.size,1,none⟩=some (.slice aa args.length ac):=hq.cell 1
     have hql:=hq.lt
     go_wp2
     exact⟨_,rfl,rfl,Since.refl _⟩
    ·go_wp2_with fail
     refine (HD0.out _ hs).mono ?_
     rintro e w2 ⟨rfl,hs2⟩
     go_wp2
     exact⟨_,rfl,rfl,hs2⟩
    ·go_wp2
     exact⟨_,rfl,rfl,Since.refl _⟩
    ·go_wp2
     exact⟨_,rfl,rfl,Since.refl _⟩
    ·have hq:=HQ.out.keep hs
     have hqc:w9.cell? ⟨w.heap.size,2,none⟩=some (.slice ta tgt.length tc):=hq.cell 2
     have hql:=hq.lt
     go_wp2
     exact⟨_,rfl,rfl,Since.refl _⟩
    ·go_wp2_with fail
     refine (HD1.out _ hs).mono ?_
     rintro e w2 ⟨rfl,hs2⟩
     go_wp2
     exact⟨_,rfl,rfl,hs2⟩
    ·go_wp2
     exact⟨_,rfl,rfl,Since.refl _⟩
    ·go_wp2
     exact⟨_,rfl,rfl,Since.refl _⟩
    ·rw[HE.out]
     have HS9:=Lib.hid (HSW.out.trans hs)
     clear hs hk
     go_wp2
     go_ret
     exact⟨rfl,HS9.out⟩
end Go.Proofs.YtmhojfpidedjeaaGreatDoor
