import Derived.Test.YtmhojfpidedjeaaGreatDoorTp08
namespace Go.Proofs.YtmhojfpidedjeaaGreatDoor
open Go.RowKit Go.Lib
set_option linter.unusedVariables false
set_option maxHeartbeats 4000000
set_option maxRecDepth 100000
theorem Xe {B b:Nat} {l m:Bs} {y : ByteArray} {its:List It} {w w1 w2:World} {e : Ending} (h:Zbf B b (l++(y.data.toList++(its.flatMap itS++[10]))) w1 e w2) (hm:y.data.toList++its.flatMap itS=m) (k:Kept B b w w1):Zbf B b (l++(m++[10])) w e w2:=by
 subst hm;obtain⟨h1,h2,h3⟩:=h;exact⟨h1,by rw[List.append_assoc];exact h2,k.trans h3⟩
theorem ZeJ (B b:Nat) (l:Bs) (x:FIns) (w:World) (hb:Bu B b l w) (hB:B≤w.heap.size) (hA:∀ w',Kept B b w w'→Zm w' x.av x.args) (hx:ZdJ x) (hL:∀ w',Kept B b w w'→Ys w')
  (hn:l.length+(ZM x.d).length≤999999999999) :
  Calls Tryz.prog 24 #[.pointer (some ⟨b,0,none⟩),fiv x] w (Zbf B b (l++(ZM x.d++[10])) w):=by
 obtain⟨op,dst,two,args,av,imm⟩:=x;obtain⟨aa,ac,e⟩:=Zp (hA w (Kept.refl _ _ _));obtain rfl:av=.slice aa args.length ac:=e;unfold fiv;have HB:=hid hb;have HA:=hid hA;have HX:=hid hx;have HL:=hid hL;have HN:=hid hn;have hr:=hid hB;have hu:=hid hb.lt;clear hb hA hx hL hn hB;obtain⟨y,hy⟩:∃ y,Xo op=y:=⟨_,rfl⟩
 have HY:=hid hy;clear hy;have ho:=fun w1=>Zfg op w1 HX.out.op
 rw[HY.out]at ho;have ht:=hid ho;clear ho;go_enter Tryz.func24,Tryz.ntmps24
 go_wp2_with fail
 have s0:Since w (w.alloc (.cells #[.int .i64 op,.int .i64 dst,.int .i64 two,.slice aa args.length ac,.int .i32 imm] 51)):=(Since.refl w).alloc _;refine (ht.out _ (HL.out _ (Kept.since s0 hr.out)).tab).mono ?_;rintro e w1 ⟨rfl,hs⟩;have hh:=(HeapIs.new w #[.int .i64 op,.int .i64 dst,.int .i64 two,.slice aa args.length ac,.int .i32 imm] 51).keep hs;have HS:=hid (s0.trans hs);have c0:w1.cell? ⟨w.heap.size,0,none⟩=some (.int .i64 op):=hh.cell 0;have c1:w1.cell? ⟨w.heap.size,1,none⟩=some (.int .i64 dst):=hh.cell 1;have c2:w1.cell? ⟨w.heap.size,2,none⟩=some (.int .i64 two):=hh.cell 2;have c3:w1.cell? ⟨w.heap.size,3,none⟩=some (.slice aa args.length ac):=hh.cell 3;have c4:w1.cell? ⟨w.heap.size,4,none⟩=some (.int .i32 imm):=hh.cell 4;have hv:=hh.lt;clear hs hh s0;have hg:=hid (Bu.keep HB.out HS.out);have hj:=hid (Nat.lt_of_lt_of_le hu.out HS.out.size);have hc:=hid (Nat.le_trans hr.out HS.out.size)
 have hd:=hid (Kept.since (b:=b) HS.out hr.out);by_cases h1:op=1
 ·subst h1;have e:(y:ByteArray).data.toList++([.n dst,.w imm]:List It).flatMap itS=ZM (FIns.d ⟨1,dst,two,args,.slice aa args.length ac,imm⟩):=by
   rw[←HY.out];simp[ZM,FIns.d,itS,opS,dS]
  have HE:=hid e;clear e;have hf:=zH (l.length+((y:ByteArray).size+(([.n dst,.w imm]:List It).flatMap itS).length)≤1000000000000) (by have h1:=HN.out;rw[←HE.out,List.length_append,Zq]at h1;omega);go_wp2_with fail
  have s2:Since w1 (w1.alloc (.cells (([.n dst,.w imm]:List It).flatMap itc).toArray 20)):=(Since.refl w1).alloc _;have he:∀ x∈([.n dst,.w imm]:List It),∀ w2,Kept B b w1 w2→WX w2 x:=by
   intro x hx w2 hk;simp only[List.mem_cons,List.not_mem_nil,or_false]at hx;rcases hx with rfl|rfl
   ·exact HX.out.dst
   ·exact HX.out.imm
  refine (XA B b l y _ [.n dst,.w imm] _ (Bu.keep hg.out s2) (Nat.le_trans hc.out s2.size) (WQ [.n dst,.w imm] _ 2 rfl rfl (by simp) hj.out he hc.out) (fun w2 hk=>HL.out _ (hd.out.trans ((Kept.since s2 hc.out).trans hk))) hf.out).mono ?_
  rintro e w2 h;have H:=hid (Xe h HE.out (hd.out.trans (Kept.since s2 hc.out)));obtain rfl:=h.1;clear h s2 he;go_wp2
  go_end0
  exact H.out
 ·by_cases h2:2≤op∧op≤14
  ·obtain⟨h2,h3⟩:=h2;have e:(y:ByteArray).data.toList++([.n dst,.ns (.slice aa args.length ac) args]:List It).flatMap itS=ZM (FIns.d ⟨op,dst,two,args,.slice aa args.length ac,imm⟩):=by
    rw[←HY.out];simp[ZM,FIns.d,itS,opS,h1,h2,h3]
   have HE:=hid e;clear e;have hf:=zH (l.length+((y:ByteArray).size+(([.n dst,.ns (.slice aa args.length ac) args]:List It).flatMap itS).length)≤1000000000000) (by have h1:=HN.out;rw[←HE.out,List.length_append,Zq]at h1;omega);go_wp2_with fail
   have s2:Since w1 (w1.alloc (.cells (([.n dst,.ns (.slice aa args.length ac) args]:List It).flatMap itc).toArray 20)):=(Since.refl w1).alloc _;have he:∀ x∈([.n dst,.ns (.slice aa args.length ac) args]:List It),∀ w2,Kept B b w1 w2→WX w2 x:=by
    intro x hx w2 hk;simp only[List.mem_cons,List.not_mem_nil,or_false]at hx;rcases hx with rfl|rfl
    ·exact HX.out.dst
    ·exact⟨HA.out w2 (hd.out.trans hk),HX.out.args⟩
   refine (XA B b l y _ [.n dst,.ns (.slice aa args.length ac) args] _ (Bu.keep hg.out s2) (Nat.le_trans hc.out s2.size) (WQ [.n dst,.ns (.slice aa args.length ac) args] _ 2 rfl rfl (by simp) hj.out he hc.out) (fun w2 hk=>HL.out _ (hd.out.trans ((Kept.since s2 hc.out).trans hk))) hf.out).mono ?_
   rintro e w2 h;have H:=hid (Xe h HE.out (hd.out.trans (Kept.since s2 hc.out)));obtain rfl:=h.1;clear h s2 he;go_wp2
   go_end0
   exact H.out
  ·by_cases hi:op=15
   ·subst hi;clear h1 h2;have e:(y:ByteArray).data.toList++([.n dst,.ns (.slice aa args.length ac) args,.w imm]:List It).flatMap itS=ZM (FIns.d ⟨15,dst,two,args,.slice aa args.length ac,imm⟩):=by
     rw[←HY.out];simp[ZM,FIns.d,itS,opS,dS]
    have HE:=hid e;clear e;have hf:=zH (l.length+((y:ByteArray).size+(([.n dst,.ns (.slice aa args.length ac) args,.w imm]:List It).flatMap itS).length)≤1000000000000) (by have h1:=HN.out;rw[←HE.out,List.length_append,Zq]at h1;omega);go_wp2_with fail
    have s2:Since w1 (w1.alloc (.cells (([.n dst,.ns (.slice aa args.length ac) args,.w imm]:List It).flatMap itc).toArray 20)):=(Since.refl w1).alloc _;have he:∀ x∈([.n dst,.ns (.slice aa args.length ac) args,.w imm]:List It),∀ w2,Kept B b w1 w2→WX w2 x:=by
     intro x hx w2 hk;simp only[List.mem_cons,List.not_mem_nil,or_false]at hx;rcases hx with rfl|rfl|rfl
     ·exact HX.out.dst
     ·exact⟨HA.out w2 (hd.out.trans hk),HX.out.args⟩
     ·exact HX.out.imm
    refine (XA B b l y _ [.n dst,.ns (.slice aa args.length ac) args,.w imm] _ (Bu.keep hg.out s2) (Nat.le_trans hc.out s2.size) (WQ [.n dst,.ns (.slice aa args.length ac) args,.w imm] _ 3 rfl rfl (by simp) hj.out he hc.out) (fun w2 hk=>HL.out _ (hd.out.trans ((Kept.since s2 hc.out).trans hk))) hf.out).mono ?_
    rintro e w2 h;have H:=hid (Xe h HE.out (hd.out.trans (Kept.since s2 hc.out)));obtain rfl:=h.1;clear h s2 he;go_wp2
    go_end0
    exact H.out
   ·by_cases hl:op=16
    ·subst hl;clear h1 h2 hi;have e:(y:ByteArray).data.toList++([.ns (.slice aa args.length ac) args,.w imm]:List It).flatMap itS=ZM (FIns.d ⟨16,dst,two,args,.slice aa args.length ac,imm⟩):=by
      rw[←HY.out];simp[ZM,FIns.d,itS,opS,dS]
     have HE:=hid e;clear e;have hf:=zH (l.length+((y:ByteArray).size+(([.ns (.slice aa args.length ac) args,.w imm]:List It).flatMap itS).length)≤1000000000000) (by have h1:=HN.out;rw[←HE.out,List.length_append,Zq]at h1;omega);go_wp2_with fail
     have s2:Since w1 (w1.alloc (.cells (([.ns (.slice aa args.length ac) args,.w imm]:List It).flatMap itc).toArray 20)):=(Since.refl w1).alloc _;have he:∀ x∈([.ns (.slice aa args.length ac) args,.w imm]:List It),∀ w2,Kept B b w1 w2→WX w2 x:=by
      intro x hx w2 hk;simp only[List.mem_cons,List.not_mem_nil,or_false]at hx;rcases hx with rfl|rfl
      ·exact⟨HA.out w2 (hd.out.trans hk),HX.out.args⟩
      ·exact HX.out.imm
     refine (XA B b l y _ [.ns (.slice aa args.length ac) args,.w imm] _ (Bu.keep hg.out s2) (Nat.le_trans hc.out s2.size) (WQ [.ns (.slice aa args.length ac) args,.w imm] _ 2 rfl rfl (by simp) hj.out he hc.out) (fun w2 hk=>HL.out _ (hd.out.trans ((Kept.since s2 hc.out).trans hk))) hf.out).mono ?_
     rintro e w2 h;have H:=hid (Xe h HE.out (hd.out.trans (Kept.since s2 hc.out)));obtain rfl:=h.1;clear h s2 he;go_wp2
     go_end0
     exact H.out
    ·by_cases hm:op=17
     ·subst hm;clear h1 h2 hi hl;have e:(y:ByteArray).data.toList++([.n dst,.w imm,.ns (.slice aa args.length ac) args]:List It).flatMap itS=ZM (FIns.d ⟨17,dst,two,args,.slice aa args.length ac,imm⟩):=by
       rw[←HY.out];simp[ZM,FIns.d,itS,opS,dS]
      have HE:=hid e;clear e;have hf:=zH (l.length+((y:ByteArray).size+(([.n dst,.w imm,.ns (.slice aa args.length ac) args]:List It).flatMap itS).length)≤1000000000000) (by have h1:=HN.out;rw[←HE.out,List.length_append,Zq]at h1;omega);go_wp2_with fail
      have s2:Since w1 (w1.alloc (.cells (([.n dst,.w imm,.ns (.slice aa args.length ac) args]:List It).flatMap itc).toArray 20)):=(Since.refl w1).alloc _;have he:∀ x∈([.n dst,.w imm,.ns (.slice aa args.length ac) args]:List It),∀ w2,Kept B b w1 w2→WX w2 x:=by
       intro x hx w2 hk;simp only[List.mem_cons,List.not_mem_nil,or_false]at hx;rcases hx with rfl|rfl|rfl
       ·exact HX.out.dst
       ·exact HX.out.imm
       ·exact⟨HA.out w2 (hd.out.trans hk),HX.out.args⟩
      refine (XA B b l y _ [.n dst,.w imm,.ns (.slice aa args.length ac) args] _ (Bu.keep hg.out s2) (Nat.le_trans hc.out s2.size) (WQ [.n dst,.w imm,.ns (.slice aa args.length ac) args] _ 3 rfl rfl (by simp) hj.out he hc.out) (fun w2 hk=>HL.out _ (hd.out.trans ((Kept.since s2 hc.out).trans hk))) hf.out).mono ?_
      rintro e w2 h;have H:=hid (Xe h HE.out (hd.out.trans (Kept.since s2 hc.out)));obtain rfl:=h.1;clear h s2 he;go_wp2
      go_end0
      exact H.out
     ·by_cases hp:op=18
      ·subst hp;clear h1 h2 hi hl hm;have e:(y:ByteArray).data.toList++([.n dst,.n two,.ns (.slice aa args.length ac) args]:List It).flatMap itS=ZM (FIns.d ⟨18,dst,two,args,.slice aa args.length ac,imm⟩):=by
        rw[←HY.out];simp[ZM,FIns.d,itS,opS,dS]
       have HE:=hid e;clear e;have hf:=zH (l.length+((y:ByteArray).size+(([.n dst,.n two,.ns (.slice aa args.length ac) args]:List It).flatMap itS).length)≤1000000000000) (by have h1:=HN.out;rw[←HE.out,List.length_append,Zq]at h1;omega);go_wp2_with fail
       have s2:Since w1 (w1.alloc (.cells (([.n dst,.n two,.ns (.slice aa args.length ac) args]:List It).flatMap itc).toArray 20)):=(Since.refl w1).alloc _;have he:∀ x∈([.n dst,.n two,.ns (.slice aa args.length ac) args]:List It),∀ w2,Kept B b w1 w2→WX w2 x:=by
        intro x hx w2 hk;simp only[List.mem_cons,List.not_mem_nil,or_false]at hx;rcases hx with rfl|rfl|rfl
        ·exact HX.out.dst
        ·exact HX.out.two
        ·exact⟨HA.out w2 (hd.out.trans hk),HX.out.args⟩
       refine (XA B b l y _ [.n dst,.n two,.ns (.slice aa args.length ac) args] _ (Bu.keep hg.out s2) (Nat.le_trans hc.out s2.size) (WQ [.n dst,.n two,.ns (.slice aa args.length ac) args] _ 3 rfl rfl (by simp) hj.out he hc.out) (fun w2 hk=>HL.out _ (hd.out.trans ((Kept.since s2 hc.out).trans hk))) hf.out).mono ?_
       rintro e w2 h;have H:=hid (Xe h HE.out (hd.out.trans (Kept.since s2 hc.out)));obtain rfl:=h.1;clear h s2 he;go_wp2
       go_end0
       exact H.out
      ·have hq:2≤op→¬ op≤14:=fun a b=>h2 ⟨a,b⟩
       by_cases ha:2≤op
       ·have hb:=hq ha;clear hq;have e:(⟨#[63]⟩:ByteArray).data.toList++([]:List It).flatMap itS=ZM (FIns.d ⟨op,dst,two,args,.slice aa args.length ac,imm⟩):=by
         simp[ZM,FIns.d,h1,hi,hl,hm,hp,hb]
        have HE:=hid e;clear e;have hf:=zH (l.length+((⟨#[63]⟩:ByteArray).size+(([]:List It).flatMap itS).length)≤1000000000000) (by have h1:=HN.out;rw[←HE.out,List.length_append,Zq]at h1;omega);go_wp2_with fail
        refine (XA B b l ⟨#[63]⟩ _ [] _ hg.out hc.out (fun w2 _=>.inl ⟨_,rfl,rfl⟩) (fun w2 hk=>HL.out _ (hd.out.trans hk)) hf.out).mono ?_
        rintro e w2 h;have H:=hid (Xe h HE.out hd.out);obtain rfl:=h.1;clear h;go_wp2
        go_end0
        exact H.out
       ·clear hq;have e:(⟨#[63]⟩:ByteArray).data.toList++([]:List It).flatMap itS=ZM (FIns.d ⟨op,dst,two,args,.slice aa args.length ac,imm⟩):=by
         simp[ZM,FIns.d,h1,h2,hi,hl,hm,hp]
        have HE:=hid e;clear e;have hf:=zH (l.length+((⟨#[63]⟩:ByteArray).size+(([]:List It).flatMap itS).length)≤1000000000000) (by have h1:=HN.out;rw[←HE.out,List.length_append,Zq]at h1;omega);go_wp2_with fail
        refine (XA B b l ⟨#[63]⟩ _ [] _ hg.out hc.out (fun w2 _=>.inl ⟨_,rfl,rfl⟩) (fun w2 hk=>HL.out _ (hd.out.trans hk)) hf.out).mono ?_
        rintro e w2 h;have H:=hid (Xe h HE.out hd.out);obtain rfl:=h.1;clear h;go_wp2
        go_end0
        exact H.out
theorem WX.keep {w w':World} {x : It} (h:WX w x) (s:Since w w'):WX w' x:=by
 cases x with
 | ns v l=>exact⟨ZN.keep h.1 s,h.2⟩
 | n x=>exact h
 | w x=>exact h
 | s x=>trivial
structure PrG (w wB:World) (b:Nat) (A:Bs) (W:World):Prop where
 bu:Bu w.heap.size b A W
 kept:Kept w.heap.size b wB W
 s0:Since w wB
 hw:b<wB.heap.size
 laid:Ys w
abbrev PrS (w wB:World) (A:Bs) (W:World):Prop:=PrG w wB (w.heap.size+1) A W
theorem PrG.since {w wB:World} {b : Nat} {A : Bs} {W : World} (h:PrG w wB b A W):Since w W:=Below.trans h.s0 h.kept.below
theorem PrG.size {w wB:World} {b : Nat} {A : Bs} {W : World} (h:PrG w wB b A W):w.heap.size≤W.heap.size:=h.since.size
theorem PrG.keep {w wB:World} {b : Nat} {A : Bs} {W W':World} (h:PrG w wB b A W) (s:Since W W'):PrG w wB b A W':=⟨Bu.keep h.bu s,h.kept.trans (Kept.since s h.size),h.s0,h.hw,h.laid⟩
theorem PrG.lt {w wB:World} {b : Nat} {A : Bs} {W : World} (h:PrG w wB b A W):b<W.heap.size:=Nat.lt_of_lt_of_le h.hw h.kept.size
def PrQ (w wB:World) (b:Nat) (A:Bs) (W:World) (e:Ending) (W':World):Prop:=e=.returned (.tuple #[])∧PrG w wB b A W'∧Kept w.heap.size b W W'
theorem Zbv {w wB W:World} {b : Nat} {A : Bs} (h:PrG w wB b A W) (W1:World) (s:Since W W1) (first:ByteArray) (its:List It) (v:Value) (hR:∀ w',Kept w.heap.size b W1 w'→Zbg w' v its) (ha:A.length+(first.size+(its.flatMap itS).length)≤1000000000000) :
  Calls Tryz.prog 22 #[.pointer (some ⟨b,0,none⟩),.string first,v] W1 (PrQ w wB b (A++(first.data.toList++(its.flatMap itS++[10]))) W):=by
 have h1:=h.keep s;refine (XA w.heap.size b A first v its W1 h1.bu h1.size hR (fun w9 h9=>h.laid.keep (Below.trans h1.since h9.below)) ha).mono ?_
 rintro e w2 ⟨rfl,h2,h3⟩;exact⟨rfl,⟨h2,h1.kept.trans h3,h.s0,h.hw,h.laid⟩,(Kept.since s h.size).trans h3⟩
theorem Ko {w wB W:World} {b : Nat} {A : Bs} (h:PrG w wB b A W) (first:ByteArray) (its:List It) (n:Nat) (cs:Array Value) (q:Nat) (hq:W.heap.size=q) (hc:cs=(its.flatMap itc).toArray) (hn:n=its.length) (hm:its.length≤1000) (hb:∀ x∈its,WX w x) (ha:A.length+(first.size+(its.flatMap itS).length)≤1000000000000) :
  Calls Tryz.prog 22 #[.pointer (some ⟨b,0,none⟩),.string first,.slice (some ⟨q,0,none⟩) n n] (W.alloc (.cells cs 20)) (PrQ w wB b (A++(first.data.toList++(its.flatMap itS++[10]))) W):=by
 subst hq;exact Zbv h _ ((Since.refl W).alloc _) first its _ (WQ its cs n hc hn hm (by have:=h.lt;omega) (fun x hx w' hk=>(hb x hx).keep (Below.trans h.since hk.below)) h.size) ha
theorem Ze7 {w wB W:World} {b : Nat} {A : Bs} (h:PrG w wB b A W) (first:ByteArray) (ha:A.length+first.size≤1000000000000) :
  Calls Tryz.prog 22 #[.pointer (some ⟨b,0,none⟩),.string first,.slice none 0 0] W (PrQ w wB b (A++(first.data.toList++[10])) W):=
 Zbv h _ (Since.refl W) first [] _ (fun _ _=>.inl ⟨_,rfl,rfl⟩) (by simpa using ha)
theorem ZgL {w wB W:World} {b : Nat} {A : Bs} (h:PrG w wB b A W) (x:FIns) (hx:Wd w x) (hr:ZdJ x) (ha:A.length+(ZM x.d).length≤999999999999) :
  Calls Tryz.prog 24 #[.pointer (some ⟨b,0,none⟩),fiv x] W (PrQ w wB b (A++(ZM x.d++[10])) W):=by
 refine (ZeJ w.heap.size b A x W h.bu h.size (fun w' hk=>ZN.keep hx (Below.trans h.since hk.below)) hr (fun w9 h9=>h.laid.keep (Below.trans h.since h9.below)) ha).mono ?_
 rintro e w2 ⟨rfl,h2,h3⟩;exact⟨rfl,⟨h2,h.kept.trans h3,h.s0,h.hw,h.laid⟩,h3⟩
theorem ZfY {w wB W:World} {b : Nat} {A : Bs} (h:PrG w wB b A W) (h0:A≠[]):Calls Tryz.prog 26 #[.pointer (some ⟨b,0,none⟩)] W (Xl ⟨A.toArray⟩ w):=by
 refine (Zgu _ _ A W h.bu h0).mono ?_;rintro e w2 ⟨rfl,h2⟩;exact⟨rfl,Below.trans h.since h2.below⟩
theorem PrQ.box {w W W':World} {b q:Nat} {cs:Array Value} {T : TypeId} (k:Kept w.heap.size b W W') (h:HeapIs W q cs T) (hq:b<q) (hT:T≠5):HeapIs W' q cs T:=h.kept k (by omega) hT
end Go.Proofs.YtmhojfpidedjeaaGreatDoor
