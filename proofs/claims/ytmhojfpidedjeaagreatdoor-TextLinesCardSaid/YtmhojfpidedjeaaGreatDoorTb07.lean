/- (*writer).ins: an instruction's line. (Printed by tools/gen_text/ins.py.) A builder that a call has made, and the lines that go into it. -/
import Derived.Test.YtmhojfpidedjeaaGreatDoorTb04
import Derived.Test.YtmhojfpidedjeaaGreatDoorTb05
namespace Go.Proofs.YtmhojfpidedjeaaGreatDoor
open Go.RowKit
set_option linter.unusedVariables false
theorem line_close {B b:Nat} {l m:Bs} {y : ByteArray} {its:List It} {w w1 w2:World} {e : Ending} (h:LineQ B b (l++(y.data.toList++(its.flatMap itS++[10]))) w1 e w2) (hm:y.data.toList++its.flatMap itS=m) (k:Kept B b w w1):LineQ B b (l++(m++[10])) w e w2:=by
 subst hm
 obtain⟨h1,h2,h3⟩:=h
 exact⟨h1,by rw[List.append_assoc];exact h2,k.trans h3⟩
set_option maxHeartbeats 4000000 in
set_option maxRecDepth 100000 in
theorem wins_any (B b:Nat) (l:Bs) (x:FIns) (w:World) (hb:Bu B b l w) (hB:B≤w.heap.size) (hA:∀ w',Kept B b w w'→Ints w' x.av x.args) (hx:InsR x) (hL:∀ w',Kept B b w w'→LaidT w')
  (hn:l.length+(insS x.d).length≤999999999999) :
  Calls Tryz.prog 24 #[.pointer (some ⟨b,0,none⟩),fiv x] w (LineQ B b (l++(insS x.d++[10])) w):=by
 obtain⟨op,dst,two,args,av,imm⟩:=x
 obtain⟨aa,ac,e⟩:=nums_lenI (hA w (Kept.refl _ _ _))
 obtain rfl:av=.slice aa args.length ac:=e
 unfold fiv
 have HB:=Lib.hid hb
 have HA:=Lib.hid hA
 have HX:=Lib.hid hx
 have HL:=Lib.hid hL
 have HN:=Lib.hid hn
 have HBs:=Lib.hid hB
 have HLt:=Lib.hid hb.lt
 clear hb hA hx hL hn hB
 obtain⟨y,hy⟩:∃ y,nameF op=y:=⟨_,rfl⟩
 have HY:=Lib.hid hy
 clear hy
 have hnm:=fun w1=>name_any op w1 HX.out.op
 rw[HY.out]at hnm
 have HNM:=Lib.hid hnm
 clear hnm
 go_enter Tryz.func24,Tryz.ntmps24
 go_wp2_with fail
 have s0:Since w (w.alloc (.cells #[.int .i64 op,.int .i64 dst,.int .i64 two,.slice aa args.length ac,.int .i32 imm] 51)):=(Since.refl w).alloc _
 refine (HNM.out _ (HL.out _ (Kept.since s0 HBs.out)).tab).mono ?_
 rintro e w1 ⟨rfl,hs⟩
 have hx1:=(HeapIs.new w #[.int .i64 op,.int .i64 dst,.int .i64 two,.slice aa args.length ac,.int .i32 imm] 51).keep hs
 have HS:=Lib.hid (s0.trans hs)
 have c0:w1.cell? ⟨w.heap.size,0,none⟩=some (.int .i64 op):=hx1.cell 0
 have c1:w1.cell? ⟨w.heap.size,1,none⟩=some (.int .i64 dst):=hx1.cell 1
 have c2:w1.cell? ⟨w.heap.size,2,none⟩=some (.int .i64 two):=hx1.cell 2
 have c3:w1.cell? ⟨w.heap.size,3,none⟩=some (.slice aa args.length ac):=hx1.cell 3
 have c4:w1.cell? ⟨w.heap.size,4,none⟩=some (.int .i32 imm):=hx1.cell 4
 have hl1:=hx1.lt
 clear hs hx1 s0
 have HB1:=Lib.hid (Bu.keep HB.out HS.out)
 have HL1:=Lib.hid (Nat.lt_of_lt_of_le HLt.out HS.out.size)
 have HS1:=Lib.hid (Nat.le_trans HBs.out HS.out.size)
 have HK1:=Lib.hid (Kept.since (b:=b) HS.out HBs.out)
 by_cases h1:op=1
 ·subst h1
  have e:(y:ByteArray).data.toList++([.n dst,.w imm]:List It).flatMap itS=insS (FIns.d ⟨1,dst,two,args,.slice aa args.length ac,imm⟩):=by
   rw[←HY.out]
   simp[insS,FIns.d,itS,opS,dS]
  have HE:=Lib.hid e
  clear e
  have HN2:=Lib.hid (show l.length+((y:ByteArray).size+(([.n dst,.w imm]:List It).flatMap itS).length)≤1000000000000 from by have h1:=HN.out;rw[←HE.out,List.length_append,bytes_len]at h1;omega)
  go_wp2_with fail
  have s2:Since w1 (w1.alloc (.cells (([.n dst,.w imm]:List It).flatMap itc).toArray 20)):=(Since.refl w1).alloc _
  have hit:∀ x∈([.n dst,.w imm]:List It),∀ w2,Kept B b w1 w2→ItIn w2 x:=by
   intro x hx w2 hk
   simp only[List.mem_cons,List.not_mem_nil,or_false]at hx
   rcases hx with rfl|rfl
   ·exact HX.out.dst
   ·exact HX.out.imm
  refine (line_any B b l y _ [.n dst,.w imm] _ (Bu.keep HB1.out s2) (Nat.le_trans HS1.out s2.size) (its_new [.n dst,.w imm] _ 2 rfl rfl (by simp) HL1.out hit HS1.out) (fun w2 hk=>HL.out _ (HK1.out.trans ((Kept.since s2 HS1.out).trans hk))) HN2.out).mono ?_
  rintro e w2 h
  have H:=Lib.hid (line_close h HE.out (HK1.out.trans (Kept.since s2 HS1.out)))
  obtain rfl:=h.1
  clear h s2 hit
  go_wp2
  go_end0
  exact H.out
 ·by_cases h2:2≤op∧op≤14
  ·obtain⟨h2,h3⟩:=h2
   have e:(y:ByteArray).data.toList++([.n dst,.ns (.slice aa args.length ac) args]:List It).flatMap itS=insS (FIns.d ⟨op,dst,two,args,.slice aa args.length ac,imm⟩):=by
    rw[←HY.out]
    simp[insS,FIns.d,itS,opS,h1,h2,h3]
   have HE:=Lib.hid e
   clear e
   have HN2:=Lib.hid (show l.length+((y:ByteArray).size+(([.n dst,.ns (.slice aa args.length ac) args]:List It).flatMap itS).length)≤1000000000000 from by have h1:=HN.out;rw[←HE.out,List.length_append,bytes_len]at h1;omega)
   go_wp2_with fail
   have s2:Since w1 (w1.alloc (.cells (([.n dst,.ns (.slice aa args.length ac) args]:List It).flatMap itc).toArray 20)):=(Since.refl w1).alloc _
   have hit:∀ x∈([.n dst,.ns (.slice aa args.length ac) args]:List It),∀ w2,Kept B b w1 w2→ItIn w2 x:=by
    intro x hx w2 hk
    simp only[List.mem_cons,List.not_mem_nil,or_false]at hx
    rcases hx with rfl|rfl
    ·exact HX.out.dst
    ·exact⟨HA.out w2 (HK1.out.trans hk),HX.out.args⟩
   refine (line_any B b l y _ [.n dst,.ns (.slice aa args.length ac) args] _ (Bu.keep HB1.out s2) (Nat.le_trans HS1.out s2.size) (its_new [.n dst,.ns (.slice aa args.length ac) args] _ 2 rfl rfl (by simp) HL1.out hit HS1.out) (fun w2 hk=>HL.out _ (HK1.out.trans ((Kept.since s2 HS1.out).trans hk))) HN2.out).mono ?_
   rintro e w2 h
   have H:=Lib.hid (line_close h HE.out (HK1.out.trans (Kept.since s2 HS1.out)))
   obtain rfl:=h.1
   clear h s2 hit
   go_wp2
   go_end0
   exact H.out
  ·by_cases h15:op=15
   ·subst h15
    clear h1 h2
    have e:(y:ByteArray).data.toList++([.n dst,.ns (.slice aa args.length ac) args,.w imm]:List It).flatMap itS=insS (FIns.d ⟨15,dst,two,args,.slice aa args.length ac,imm⟩):=by
     rw[←HY.out]
     simp[insS,FIns.d,itS,opS,dS]
    have HE:=Lib.hid e
    clear e
    have HN2:=Lib.hid (show l.length+((y:ByteArray).size+(([.n dst,.ns (.slice aa args.length ac) args,.w imm]:List It).flatMap itS).length)≤1000000000000 from by have h1:=HN.out;rw[←HE.out,List.length_append,bytes_len]at h1;omega)
    go_wp2_with fail
    have s2:Since w1 (w1.alloc (.cells (([.n dst,.ns (.slice aa args.length ac) args,.w imm]:List It).flatMap itc).toArray 20)):=(Since.refl w1).alloc _
    have hit:∀ x∈([.n dst,.ns (.slice aa args.length ac) args,.w imm]:List It),∀ w2,Kept B b w1 w2→ItIn w2 x:=by
     intro x hx w2 hk
     simp only[List.mem_cons,List.not_mem_nil,or_false]at hx
     rcases hx with rfl|rfl|rfl
     ·exact HX.out.dst
     ·exact⟨HA.out w2 (HK1.out.trans hk),HX.out.args⟩
     ·exact HX.out.imm
    refine (line_any B b l y _ [.n dst,.ns (.slice aa args.length ac) args,.w imm] _ (Bu.keep HB1.out s2) (Nat.le_trans HS1.out s2.size) (its_new [.n dst,.ns (.slice aa args.length ac) args,.w imm] _ 3 rfl rfl (by simp) HL1.out hit HS1.out) (fun w2 hk=>HL.out _ (HK1.out.trans ((Kept.since s2 HS1.out).trans hk))) HN2.out).mono ?_
    rintro e w2 h
    have H:=Lib.hid (line_close h HE.out (HK1.out.trans (Kept.since s2 HS1.out)))
    obtain rfl:=h.1
    clear h s2 hit
    go_wp2
    go_end0
    exact H.out
   ·by_cases h16:op=16
    ·subst h16
     clear h1 h2 h15
     have e:(y:ByteArray).data.toList++([.ns (.slice aa args.length ac) args,.w imm]:List It).flatMap itS=insS (FIns.d ⟨16,dst,two,args,.slice aa args.length ac,imm⟩):=by
      rw[←HY.out]
      simp[insS,FIns.d,itS,opS,dS]
     have HE:=Lib.hid e
     clear e
     have HN2:=Lib.hid (show l.length+((y:ByteArray).size+(([.ns (.slice aa args.length ac) args,.w imm]:List It).flatMap itS).length)≤1000000000000 from by have h1:=HN.out;rw[←HE.out,List.length_append,bytes_len]at h1;omega)
     go_wp2_with fail
     have s2:Since w1 (w1.alloc (.cells (([.ns (.slice aa args.length ac) args,.w imm]:List It).flatMap itc).toArray 20)):=(Since.refl w1).alloc _
     have hit:∀ x∈([.ns (.slice aa args.length ac) args,.w imm]:List It),∀ w2,Kept B b w1 w2→ItIn w2 x:=by
      intro x hx w2 hk
      simp only[List.mem_cons,List.not_mem_nil,or_false]at hx
      rcases hx with rfl|rfl
      ·exact⟨HA.out w2 (HK1.out.trans hk),HX.out.args⟩
      ·exact HX.out.imm
     refine (line_any B b l y _ [.ns (.slice aa args.length ac) args,.w imm] _ (Bu.keep HB1.out s2) (Nat.le_trans HS1.out s2.size) (its_new [.ns (.slice aa args.length ac) args,.w imm] _ 2 rfl rfl (by simp) HL1.out hit HS1.out) (fun w2 hk=>HL.out _ (HK1.out.trans ((Kept.since s2 HS1.out).trans hk))) HN2.out).mono ?_
     rintro e w2 h
     have H:=Lib.hid (line_close h HE.out (HK1.out.trans (Kept.since s2 HS1.out)))
     obtain rfl:=h.1
     clear h s2 hit
     go_wp2
     go_end0
     exact H.out
    ·by_cases h17:op=17
     ·subst h17
      clear h1 h2 h15 h16
      have e:(y:ByteArray).data.toList++([.n dst,.w imm,.ns (.slice aa args.length ac) args]:List It).flatMap itS=insS (FIns.d ⟨17,dst,two,args,.slice aa args.length ac,imm⟩):=by
       rw[←HY.out]
       simp[insS,FIns.d,itS,opS,dS]
      have HE:=Lib.hid e
      clear e
      have HN2:=Lib.hid (show l.length+((y:ByteArray).size+(([.n dst,.w imm,.ns (.slice aa args.length ac) args]:List It).flatMap itS).length)≤1000000000000 from by have h1:=HN.out;rw[←HE.out,List.length_append,bytes_len]at h1;omega)
      go_wp2_with fail
      have s2:Since w1 (w1.alloc (.cells (([.n dst,.w imm,.ns (.slice aa args.length ac) args]:List It).flatMap itc).toArray 20)):=(Since.refl w1).alloc _
      have hit:∀ x∈([.n dst,.w imm,.ns (.slice aa args.length ac) args]:List It),∀ w2,Kept B b w1 w2→ItIn w2 x:=by
       intro x hx w2 hk
       simp only[List.mem_cons,List.not_mem_nil,or_false]at hx
       rcases hx with rfl|rfl|rfl
       ·exact HX.out.dst
       ·exact HX.out.imm
       ·exact⟨HA.out w2 (HK1.out.trans hk),HX.out.args⟩
      refine (line_any B b l y _ [.n dst,.w imm,.ns (.slice aa args.length ac) args] _ (Bu.keep HB1.out s2) (Nat.le_trans HS1.out s2.size) (its_new [.n dst,.w imm,.ns (.slice aa args.length ac) args] _ 3 rfl rfl (by simp) HL1.out hit HS1.out) (fun w2 hk=>HL.out _ (HK1.out.trans ((Kept.since s2 HS1.out).trans hk))) HN2.out).mono ?_
      rintro e w2 h
      have H:=Lib.hid (line_close h HE.out (HK1.out.trans (Kept.since s2 HS1.out)))
      obtain rfl:=h.1
      clear h s2 hit
      go_wp2
      go_end0
      exact H.out
     ·by_cases h18:op=18
      ·subst h18
       clear h1 h2 h15 h16 h17
       have e:(y:ByteArray).data.toList++([.n dst,.n two,.ns (.slice aa args.length ac) args]:List It).flatMap itS=insS (FIns.d ⟨18,dst,two,args,.slice aa args.length ac,imm⟩):=by
        rw[←HY.out]
        simp[insS,FIns.d,itS,opS,dS]
       have HE:=Lib.hid e
       clear e
       have HN2:=Lib.hid (show l.length+((y:ByteArray).size+(([.n dst,.n two,.ns (.slice aa args.length ac) args]:List It).flatMap itS).length)≤1000000000000 from by have h1:=HN.out;rw[←HE.out,List.length_append,bytes_len]at h1;omega)
       go_wp2_with fail
       have s2:Since w1 (w1.alloc (.cells (([.n dst,.n two,.ns (.slice aa args.length ac) args]:List It).flatMap itc).toArray 20)):=(Since.refl w1).alloc _
       have hit:∀ x∈([.n dst,.n two,.ns (.slice aa args.length ac) args]:List It),∀ w2,Kept B b w1 w2→ItIn w2 x:=by
        intro x hx w2 hk
        simp only[List.mem_cons,List.not_mem_nil,or_false]at hx
        rcases hx with rfl|rfl|rfl
        ·exact HX.out.dst
        ·exact HX.out.two
        ·exact⟨HA.out w2 (HK1.out.trans hk),HX.out.args⟩
       refine (line_any B b l y _ [.n dst,.n two,.ns (.slice aa args.length ac) args] _ (Bu.keep HB1.out s2) (Nat.le_trans HS1.out s2.size) (its_new [.n dst,.n two,.ns (.slice aa args.length ac) args] _ 3 rfl rfl (by simp) HL1.out hit HS1.out) (fun w2 hk=>HL.out _ (HK1.out.trans ((Kept.since s2 HS1.out).trans hk))) HN2.out).mono ?_
       rintro e w2 h
       have H:=Lib.hid (line_close h HE.out (HK1.out.trans (Kept.since s2 HS1.out)))
       obtain rfl:=h.1
       clear h s2 hit
       go_wp2
       go_end0
       exact H.out
      ·have h14:2≤op→¬ op≤14:=fun a b=>h2 ⟨a,b⟩
       by_cases ha:2≤op
       ·have hb:=h14 ha
        clear h14
        have e:(⟨#[63]⟩:ByteArray).data.toList++([]:List It).flatMap itS=insS (FIns.d ⟨op,dst,two,args,.slice aa args.length ac,imm⟩):=by
         simp[insS,FIns.d,h1,h15,h16,h17,h18,hb]
        have HE:=Lib.hid e
        clear e
        have HN2:=Lib.hid (show l.length+((⟨#[63]⟩:ByteArray).size+(([]:List It).flatMap itS).length)≤1000000000000 from by have h1:=HN.out;rw[←HE.out,List.length_append,bytes_len]at h1;omega)
        go_wp2_with fail
        refine (line_any B b l ⟨#[63]⟩ _ [] _ HB1.out HS1.out (fun w2 _=>.inl ⟨_,rfl,rfl⟩) (fun w2 hk=>HL.out _ (HK1.out.trans hk)) HN2.out).mono ?_
        rintro e w2 h
        have H:=Lib.hid (line_close h HE.out HK1.out)
        obtain rfl:=h.1
        clear h
        go_wp2
        go_end0
        exact H.out
       ·clear h14
        have e:(⟨#[63]⟩:ByteArray).data.toList++([]:List It).flatMap itS=insS (FIns.d ⟨op,dst,two,args,.slice aa args.length ac,imm⟩):=by
         simp[insS,FIns.d,h1,h2,h15,h16,h17,h18]
        have HE:=Lib.hid e
        clear e
        have HN2:=Lib.hid (show l.length+((⟨#[63]⟩:ByteArray).size+(([]:List It).flatMap itS).length)≤1000000000000 from by have h1:=HN.out;rw[←HE.out,List.length_append,bytes_len]at h1;omega)
        go_wp2_with fail
        refine (line_any B b l ⟨#[63]⟩ _ [] _ HB1.out HS1.out (fun w2 _=>.inl ⟨_,rfl,rfl⟩) (fun w2 hk=>HL.out _ (HK1.out.trans hk)) HN2.out).mono ?_
        rintro e w2 h
        have H:=Lib.hid (line_close h HE.out HK1.out)
        obtain rfl:=h.1
        clear h
        go_wp2
        go_end0
        exact H.out
theorem ItIn.keep {w w':World} {x : It} (h:ItIn w x) (s:Since w w'):ItIn w' x:=by
 cases x with
 | ns v l=>exact⟨Nums.keep h.1 s,h.2⟩
 | n x=>exact h
 | w x=>exact h
 | s x=>trivial
structure PrG (w wB:World) (b:Nat) (A:Bs) (W:World):Prop where
 bu:Bu w.heap.size b A W
 kept:Kept w.heap.size b wB W
 s0:Since w wB
 hw:b<wB.heap.size
 laid:LaidT w
abbrev PrS (w wB:World) (A:Bs) (W:World):Prop:=PrG w wB (w.heap.size+1) A W
theorem PrG.since {w wB:World} {b : Nat} {A : Bs} {W : World} (h:PrG w wB b A W):Since w W:=Below.trans h.s0 h.kept.below
theorem PrG.size {w wB:World} {b : Nat} {A : Bs} {W : World} (h:PrG w wB b A W):w.heap.size≤W.heap.size:=h.since.size
theorem PrG.keep {w wB:World} {b : Nat} {A : Bs} {W W':World} (h:PrG w wB b A W) (s:Since W W'):PrG w wB b A W':=⟨Bu.keep h.bu s,h.kept.trans (Kept.since s h.size),h.s0,h.hw,h.laid⟩
theorem PrG.lt {w wB:World} {b : Nat} {A : Bs} {W : World} (h:PrG w wB b A W):b<W.heap.size:=Nat.lt_of_lt_of_le h.hw h.kept.size
def PrQ (w wB:World) (b:Nat) (A:Bs) (W:World) (e:Ending) (W':World):Prop:=e=.returned (.tuple #[])∧PrG w wB b A W'∧Kept w.heap.size b W W'
theorem pr_row {w wB W:World} {b : Nat} {A : Bs} (h:PrG w wB b A W) (W1:World) (s:Since W W1) (first:ByteArray) (its:List It) (v:Value) (hR:∀ w',Kept w.heap.size b W1 w'→ItsIn w' v its) (hlen:A.length+(first.size+(its.flatMap itS).length)≤1000000000000) :
  Calls Tryz.prog 22 #[.pointer (some ⟨b,0,none⟩),.string first,v] W1 (PrQ w wB b (A++(first.data.toList++(its.flatMap itS++[10]))) W):=by
 have h1:=h.keep s
 refine (line_any w.heap.size b A first v its W1 h1.bu h1.size hR (fun w9 h9=>h.laid.keep (Below.trans h1.since h9.below)) hlen).mono ?_
 rintro e w2 ⟨rfl,h2,h3⟩
 exact⟨rfl,⟨h2,h1.kept.trans h3,h.s0,h.hw,h.laid⟩,(Kept.since s h.size).trans h3⟩
theorem pr_line {w wB W:World} {b : Nat} {A : Bs} (h:PrG w wB b A W) (first:ByteArray) (its:List It) (n:Nat) (cs:Array Value) (q:Nat) (hq:W.heap.size=q) (hcs:cs=(its.flatMap itc).toArray) (hn:n=its.length) (hm:its.length≤1000) (hit:∀ x∈its,ItIn w x) (hlen:A.length+(first.size+(its.flatMap itS).length)≤1000000000000) :
  Calls Tryz.prog 22 #[.pointer (some ⟨b,0,none⟩),.string first,.slice (some ⟨q,0,none⟩) n n] (W.alloc (.cells cs 20)) (PrQ w wB b (A++(first.data.toList++(its.flatMap itS++[10]))) W):=by
 subst hq
 exact pr_row h _ ((Since.refl W).alloc _) first its _ (its_new its cs n hcs hn hm (by have:=h.lt;omega) (fun x hx w' hk=>(hit x hx).keep (Below.trans h.since hk.below)) h.size) hlen
theorem pr_line0 {w wB W:World} {b : Nat} {A : Bs} (h:PrG w wB b A W) (first:ByteArray) (hlen:A.length+first.size≤1000000000000) :
  Calls Tryz.prog 22 #[.pointer (some ⟨b,0,none⟩),.string first,.slice none 0 0] W (PrQ w wB b (A++(first.data.toList++[10])) W):=
 pr_row h _ (Since.refl W) first [] _ (fun _ _=>.inl ⟨_,rfl,rfl⟩) (by simpa using hlen)
theorem pr_ins {w wB W:World} {b : Nat} {A : Bs} (h:PrG w wB b A W) (x:FIns) (hx:FInsIn w x) (hr:InsR x) (hlen:A.length+(insS x.d).length≤999999999999) :
  Calls Tryz.prog 24 #[.pointer (some ⟨b,0,none⟩),fiv x] W (PrQ w wB b (A++(insS x.d++[10])) W):=by
 refine (wins_any w.heap.size b A x W h.bu h.size (fun w' hk=>Nums.keep hx (Below.trans h.since hk.below)) hr (fun w9 h9=>h.laid.keep (Below.trans h.since h9.below)) hlen).mono ?_
 rintro e w2 ⟨rfl,h2,h3⟩
 exact⟨rfl,⟨h2,h.kept.trans h3,h.s0,h.hw,h.laid⟩,h3⟩
theorem pr_says {w wB W:World} {b : Nat} {A : Bs} (h:PrG w wB b A W) (h0:A≠[]):Calls Tryz.prog 26 #[.pointer (some ⟨b,0,none⟩)] W (StrQ ⟨A.toArray⟩ w):=by
 refine (bu_says _ _ A W h.bu h0).mono ?_
 rintro e w2 ⟨rfl,h2⟩
 exact⟨rfl,Below.trans h.since h2.below⟩
theorem PrQ.box {w W W':World} {b q:Nat} {cs:Array Value} {T : TypeId} (k:Kept w.heap.size b W W') (h:HeapIs W q cs T) (hq:b<q) (hT:T≠5):HeapIs W' q cs T:=h.kept k (by omega) hT
end Go.Proofs.YtmhojfpidedjeaaGreatDoor
