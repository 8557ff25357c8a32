import Derived.Test.YtmhojfpidedjeaaGreatDoorTp07
namespace Go.Proofs.YtmhojfpidedjeaaGreatDoor
open Go.RowKit Go.Lib
set_option linter.unusedVariables false
set_option maxHeartbeats 8000000
set_option maxRecDepth 100000
def termsText:ByteArray:=⟨#[106,117,109,112,32,98,114,97,110,99,104,32,115,119,105,116,99,104,32,114,101,116,32,116,114,97,112]⟩
def Zay:ByteArray:=⟨(([108,105]++(ZT.drop 1).flatMap (fun b=>32::b.data.toList)):Bs).toArray⟩
def Vh (w:World) (b:Nat) (l:List ByteArray):Prop:=b<w.heap.size∧∀ j,j<l.length→w.cell? ⟨b,0+j,none⟩=some (.string (l.getD j ByteArray.empty))
theorem Jm (w:World) (l:List ByteArray) (T:TypeId):Vh (w.alloc (.cells (l.map Value.string).toArray T)) w.heap.size l:=by
 refine⟨by simp,fun j hj=>?_⟩;have h:(l.map Value.string)[j]? = some (.string (l.getD j ByteArray.empty)):=by
  rw[List.getElem?_map,List.getElem?_eq_getElem hj,List.getD_eq_getElem?_getD,List.getElem?_eq_getElem hj];rfl
 simp only[World.cell?,Z2,Nat.zero_add];simpa using h
theorem Vh.keep {w w':World} {b : Nat} {l : List ByteArray} (h:Vh w b l) (s:Since w w'):Vh w' b l:=⟨Nat.lt_of_lt_of_le h.1 s.size,fun j hj=>(s.cell (p:=⟨b,0+j,none⟩) h.1).trans (h.2 j hj)⟩
def Jk (n:Nat) (l:List ByteArray) (w:World) (e:Ending) (w':World):Prop:=e=.returned (.slice (some ⟨w.heap.size,0,none⟩) n n)∧Vh w' w.heap.size l∧Since w w'
theorem Ka (s : ByteArray) (n : Nat) (l : List ByteArray) (hn : l.length = n) (h : Lib.fields s.data.toList = l.map fun b => b.data.toList) (ha : s.data.toList.all (fun b => decide (b.toNat < 128)) = true) (hs : s.size < 4294967281) (w : World) (hc : Lib.TabIs Tryz.prog w "strings.asciiSpace" .u8 Lib.asciiSpaceTab) :
  Calls Tryz.prog 48 #[.string s] w (Jk n l w):=by
 subst hn;refine (Tryz.strings_Fields s w hs (fun j b hb=>by have:=List.all_eq_true.1 ha b (List.mem_of_getElem? hb);simpa using this) hc).mono ?_
 rintro e w' ⟨rfl,rfl⟩;have e1:((Lib.fields s.data.toList).map fun l=>Value.string ⟨l.toArray⟩)=l.map Value.string:=by
  rw[h,List.map_map];refine List.map_congr_left fun s _=>?_
  obtain⟨⟨l⟩⟩:=s;rfl
 rw[e1,h,List.length_map];exact⟨rfl,Jm w _ _,(Since.refl _).alloc _⟩
theorem J9 (w : World) (ha : Lib.TabIs Tryz.prog w "strings.asciiSpace" .u8 Lib.asciiSpaceTab) : Calls Tryz.prog 48 #[.string termsText] w (Jk 5 ZY w) := Ka termsText 5 ZY rfl (by decide +kernel) (by decide +kernel) (by decide +kernel) w ha
theorem J8 (w : World) (ha : Lib.TabIs Tryz.prog w "strings.asciiSpace" .u8 Lib.asciiSpaceTab) : Calls Tryz.prog 48 #[.string Zay] w (Jk 37 ZT w) := Ka Zay 37 ZT rfl (by decide +kernel) (by decide +kernel) (by decide +kernel) w ha
theorem Zgm {l : List ByteArray} {k : Nat} (h:k<l.length):l[k]? = some (l.getD k ByteArray.empty):=by rw[List.getD_eq_getElem?_getD,List.getElem?_eq_getElem h];rfl
theorem Zgc (n : Int) (w : World) (ho : ZO n) (ha : Lib.TabIs Tryz.prog w "strings.asciiSpace" .u8 Lib.asciiSpaceTab) :
  Calls Tryz.prog 25 #[.string termsText,.int .i64 n] w (Xl (X0 n) w):=by
 unfold ZO at ho;obtain⟨t,ht⟩:∃ t,termsText=t:=⟨_,rfl⟩
 have HF:=hid (J9 w ha);rw[ht]at HF ⊢;obtain⟨y,hy⟩:∃ y,X0 n=y:=⟨_,rfl⟩
 have HY:=hid hy;rw[hy];clear hy ha ht;by_cases h1:n<1
 ·obtain rfl:⟨#[63]⟩=y:=by rw[←HY.out];unfold X0;rw[if_pos (.inl h1)]
  go_enter Tryz.func25,Tryz.ntmps25
  go_wp2_with fail
  refine HF.out.mono ?_;rintro e w1 ⟨rfl,hn,hb⟩;have HB:=hid hb;clear hn hb;go_wp2
  go_ret
  exact⟨rfl,HB.out⟩
 ·by_cases h2:5<n
  ·obtain rfl:⟨#[63]⟩=y:=by rw[←HY.out];unfold X0;rw[if_pos (.inr h2)]
   go_enter Tryz.func25,Tryz.ntmps25
   go_wp2_with fail
   refine HF.out.mono ?_;rintro e w1 ⟨rfl,hn,hb⟩;have HB:=hid hb;clear hn hb;go_wp2
   go_ret
   exact⟨rfl,HB.out⟩
  ·obtain⟨k,rfl⟩:∃ k:Nat,n=(k:Int)+1:=⟨(n-1).toNat,by omega⟩
   have hk:k<5:=by omega
   have he:X0 ((k:Int)+1)=ZY.getD k ByteArray.empty:=by unfold X0;rw[if_neg (by omega),show ((k:Int)+1-1).toNat=k from by omega]
   rw[he]at HY;clear he;go_enter Tryz.func25,Tryz.ntmps25
   go_wp2_with fail
   refine HF.out.mono ?_;rintro e w1 ⟨rfl,hn,hb⟩;have hc:w1.cell? ⟨w.heap.size,0+k,none⟩=some (.string y):=by rw[←HY.out];exact hn.2 k hk
   rw[Nat.zero_add]at hc;have hl:=hn.1;have HB:=hid hb;clear hn hb;go_wp2
   go_ret
   exact⟨rfl,HB.out⟩
theorem Zaw (n : Int) (w : World) (ho : ZO n) (ha : Lib.TabIs Tryz.prog w "strings.asciiSpace" .u8 Lib.asciiSpaceTab) :
  Calls Tryz.prog 30 #[.int .i64 n] w (Xl (Xx n) w):=by
 unfold ZO at ho;have HF:=hid (J8 w ha);obtain⟨y,hy⟩:∃ y,Xx n=y:=⟨_,rfl⟩
 have HY:=hid hy;rw[hy];clear hy ha;by_cases h1:n<1
 ·obtain rfl:ByteArray.empty=y:=by rw[←HY.out];unfold Xx;rw[if_pos (.inl h1)]
  go_enter Tryz.func30,Tryz.ntmps30
  go_wp2_with fail
  refine HF.out.mono ?_;rintro e w1 ⟨rfl,hn,hb⟩;have HB:=hid hb;clear hn hb;go_wp2
  go_ret
  exact⟨rfl,HB.out⟩
 ·by_cases h2:37<n
  ·obtain rfl:ByteArray.empty=y:=by rw[←HY.out];unfold Xx;rw[if_pos (.inr h2)]
   go_enter Tryz.func30,Tryz.ntmps30
   go_wp2_with fail
   refine HF.out.mono ?_;rintro e w1 ⟨rfl,hn,hb⟩;have HB:=hid hb;clear hn hb;go_wp2
   go_ret
   exact⟨rfl,HB.out⟩
  ·obtain⟨k,rfl⟩:∃ k:Nat,n=(k:Int)+1:=⟨(n-1).toNat,by omega⟩
   have hk:k<37:=by omega
   have he:Xx ((k:Int)+1)=ZT.getD k ByteArray.empty:=by unfold Xx;rw[if_neg (by omega),show ((k:Int)+1-1).toNat=k from by omega]
   rw[he]at HY;clear he;go_enter Tryz.func30,Tryz.ntmps30
   go_wp2_with fail
   refine HF.out.mono ?_;rintro e w1 ⟨rfl,hn,hb⟩;have hc:w1.cell? ⟨w.heap.size,0+k,none⟩=some (.string y):=by rw[←HY.out];exact hn.2 k hk
   rw[Nat.zero_add]at hc;have hl:=hn.1;have HB:=hid hb;clear hn hb;go_wp2
   go_ret
   exact⟨rfl,HB.out⟩
def patRowA:Array Value:=(Value.string ⟨#[]⟩::ZT.map Value.string).toArray
theorem Wu {P : Program} {ops:Array Oper} {rest:List Oper} {o : Oper} {a : Act} {w : World} {Q : Exit→Act→World→Prop} (hg:o.guard=none) (t:TypeId) (parts:Array (Nat × Operand)) (ho:o.op=.build t parts) (cs:Array Value)
  (hf:P.built t (parts.map fun (i,x)=>(i,a.eval x)).toList=some cs) (h:wpList P ops Q rest (a.put o.dst (.agg cs)) w):wpList P ops Q (o::rest) a w:=
 wpList_build hg t parts ho (by rw[hf];rfl) (by rw[hf];exact h)
theorem ZX {w0 w:World} (s:Since w0 w) {g : Nat} (hg:w0.heap.size≤g) (cs:Array Value):Since w0 (w.setRow g cs):=
 Below.trans s ⟨rfl,rfl,rfl,by simp[World.setRow],fun i hi=>setRow_other w g i cs (by omega)⟩
theorem Zf5 {n : Int} (h1:¬ n<1) (h2:¬ 37<n):(Value.string ⟨#[]⟩::ZT.map Value.string).toArray[n.toNat]? = some (.string (Xx n)):=by
 obtain⟨k,rfl⟩:∃ k:Nat,n=(k:Int)+1:=⟨(n-1).toNat,by omega⟩
 unfold Xx;rw[if_neg (by omega),show ((k:Int)+1-1).toNat=k from by omega,show ((k:Int)+1).toNat=k+1 from by omega];have hk:k<ZT.length:=by show k<37;omega
 rw[List.getElem?_toArray,List.getElem?_cons_succ,List.getElem?_map,Zgm hk];rfl
theorem Qp (n:Int) (w:World) (ho:ZO n):Calls Tryz.prog 31 #[.int .i64 n] w (Xl (Xx n) w):=by
 unfold ZO at ho;obtain⟨y,hy⟩:∃ y,Xx n=y:=⟨_,rfl⟩
 rw[hy];by_cases h1:n<1
 ·obtain rfl:ByteArray.empty=y:=by rw[←hy];unfold Xx;rw[if_pos (.inl h1)]
  clear hy;go_enter Tryz.func31,Tryz.ntmps31
  go_wp2_with (first | (refine Wu rfl 113 _ rfl patRowA (by kernel_rfl) ?_) | (refine wpList_store_row rfl 113 _ _ rfl w.heap.size patRowA rfl rfl 113 _ (Z2 w _) (by kernel_rfl) (by kernel_rfl) (by kernel_rfl) ?_;generalize hW:(World.alloc w _).setRow w.heap.size patRowA=W;have HS:=zH (Since w W) (by rw[←hW];exact ZX ((Since.refl w).alloc _) (Nat.le_refl _) _);have ha:w.heap.size<W.heap.size:=(by rw[←hW];simp[World.setRow]);clear hW))
  go_ret
  exact⟨rfl,HS.out⟩
 ·by_cases h2:37<n
  ·obtain rfl:ByteArray.empty=y:=by rw[←hy];unfold Xx;rw[if_pos (.inr h2)]
   clear hy;go_enter Tryz.func31,Tryz.ntmps31
   go_wp2_with (first | (refine Wu rfl 113 _ rfl patRowA (by kernel_rfl) ?_) | (refine wpList_store_row rfl 113 _ _ rfl w.heap.size patRowA rfl rfl 113 _ (Z2 w _) (by kernel_rfl) (by kernel_rfl) (by kernel_rfl) ?_;generalize hW:(World.alloc w _).setRow w.heap.size patRowA=W;have HS:=zH (Since w W) (by rw[←hW];exact ZX ((Since.refl w).alloc _) (Nat.le_refl _) _);have ha:w.heap.size<W.heap.size:=(by rw[←hW];simp[World.setRow]);clear hW))
   go_ret
   exact⟨rfl,HS.out⟩
  ·have hm:=Zf5 h1 h2;rw[hy]at hm;clear hy;obtain⟨k,rfl⟩:∃ k:Nat,n=(k:Int):=⟨n.toNat,by omega⟩
   have hk:k<38:=by omega
   rw[Int.toNat_natCast]at hm;have HM:=hid hm;clear hm;go_enter Tryz.func31,Tryz.ntmps31
   go_wp2_with (first | (refine Wu rfl 113 _ rfl patRowA (by kernel_rfl) ?_) | (refine wpList_store_row rfl 113 _ _ rfl w.heap.size patRowA rfl rfl 113 _ (Z2 w _) (by kernel_rfl) (by kernel_rfl) (by kernel_rfl) ?_;generalize hW:(World.alloc w _).setRow w.heap.size patRowA=W;have HS:=zH (Since w W) (by rw[←hW];exact ZX ((Since.refl w).alloc _) (Nat.le_refl _) _);have hb:W.cell? ⟨w.heap.size,k,none⟩=some (.string y):=(by rw[←hW];exact (cell_setRow_same _ _ _ _ _ _ _ (Z2 w _)).trans HM.out);have ha:w.heap.size<W.heap.size:=(by rw[←hW];simp[World.setRow]);clear hW))
   go_ret
   exact⟨rfl,HS.out⟩
theorem Zaj {x : Int} (h:In32W x):ZO x:=⟨by have:=h.1;omega,by have:=h.2;omega⟩
theorem Zde (x:FIns) (w:World) (hA:Wd w x) (hx:ZdJ x) (hn:(ZM x.d).length≤1000000000):Calls Tryz.prog 28 #[fiv x] w (Xl ⟨(ZM x.d).toArray⟩ w):=by
 obtain⟨op,dst,two,args,av,imm⟩:=x
 replace hA:Zm w av args:=hA
 obtain⟨aa,ac,e⟩:=Zp hA;obtain rfl:av=.slice aa args.length ac:=e;unfold fiv;have HA:=hid hA;have HX:=hid hx;have HN:=hid hn;have hO:=hx.imm.1;have hN:=hx.imm.2;dsimp only at hO hN;clear hA hx hn;obtain⟨y,hy⟩:∃ y,Xo op=y:=⟨_,rfl⟩
 have HY:=hid hy;have hH:=fun w1=>Zd4 op w1 HX.out.op
 rw[hy]at hH;have hP:=hid hH;clear hH hy;go_enter Tryz.func28,Tryz.ntmps28
 go_wp2_with fail
 refine (hP.out _).mono ?_;rintro e w1 ⟨rfl,hs⟩;have hF:=(HeapIs.new w #[.int .i64 op,.int .i64 dst,.int .i64 two,.slice aa args.length ac,.int .i32 imm] 51).keep hs;have HQ:=hid hF;have hi:=hid (((Since.refl w).alloc (.cells #[.int .i64 op,.int .i64 dst,.int .i64 two,.slice aa args.length ac,.int .i32 imm] 51)).trans hs);have c0:w1.cell? ⟨w.heap.size,0,none⟩=some (.int .i64 op):=hF.cell 0;have hv:=hF.lt;clear hs hF;by_cases h1:op=1
 ·subst h1;obtain⟨z0,hf⟩:∃ z:ByteArray,⟨(dS dst).toArray⟩=z:=⟨_,rfl⟩
  have hh:=fun W (_:Since w W)=>YL dst W HX.out.dst
  rw[hf]at hh;have hu:=hid hh;obtain⟨z1,hd⟩:∃ z:ByteArray,⟨(dS imm).toArray⟩=z:=⟨_,rfl⟩
  have hg:=fun W (_:Since w W)=>YL imm W (Zaj HX.out.imm)
  rw[hd]at hg;have ht:=hid hg;have he:y++z0++z1=⟨(ZM (FIns.d ⟨1,dst,two,args,.slice aa args.length ac,imm⟩)).toArray⟩:=by
   apply Zn
   rw[Zg,Zg,←HY.out,←hf,←hd];simp[ZM,FIns.d,opS,dS]
  have HE:=hid he;have ho:y.size+z0.size+z1.size≤1000000000:=by
   have h1:=HN.out;rw[←Zu,←he]at h1;simpa only [ByteArray.size_append]using h1
  have hC:¬ 9223372036854775807<y.size+z0.size:=by omega
  have hB:¬ 9223372036854775807<y.size+z0.size+z1.size:=by omega
  clear ho he hf hh hd hg;go_wp2_with fail
  clear c0 hv;refine ZG rfl (by decide +kernel) (by decide +kernel)
   [Is (.string y),Is (.pointer (some ⟨w.heap.size,1,none⟩)),Is (.int .i64 dst),Is (.string z0),Is (.string (y++z0)),Is (.pointer (some ⟨w.heap.size,4,none⟩)),Is (.int .i32 imm),Is (.int .i64 imm),Is (.string z1),Is (.string (y++z0++z1)),Is (.string (y++z0++z1))]
   (by repeat (first | exact trivial | refine⟨Is.stable _,?_⟩ | refine⟨ZV.stable _ _,?_⟩ | refine⟨IsRows.stable _ _,?_⟩)) ⟨?_,?_,?_,?_,?_,?_,?_,?_,?_,?_,?_,trivial⟩ ?_
  all_goals
   intro vs w9 hs hk;simp only[putAll,Act.put,Zh,Zc,Zd,Is,List.setIfInBounds_toArray,List.set_cons_zero,List.set_cons_succ,Nat.reduceAdd,List.length_cons,List.length_nil]at hk ⊢;try simp only[hk]
  iterate 2
   ·go_wp2
    exact⟨_,rfl,rfl,.refl _⟩
  ·have hq:=HQ.out.keep hs;have hl:w9.cell? ⟨w.heap.size,1,none⟩=some (.int .i64 dst):=hq.cell 1;have hj:=hq.lt;go_wp2
   exact⟨_,rfl,rfl,.refl _⟩
  ·go_wp2_with fail
   refine (hu.out _ (hi.out.trans hs)).mono ?_;rintro e w2 ⟨rfl,hc⟩;go_wp2
   exact⟨_,rfl,rfl,hc⟩
  iterate 2
   ·go_wp2
    exact⟨_,rfl,rfl,.refl _⟩
  ·have hq:=HQ.out.keep hs;have hl:w9.cell? ⟨w.heap.size,4,none⟩=some (.int .i32 imm):=hq.cell 4;have hj:=hq.lt;go_wp2
   exact⟨_,rfl,rfl,.refl _⟩
  ·go_wp2
   exact⟨_,rfl,rfl,.refl _⟩
  ·go_wp2_with fail
   refine (ht.out _ (hi.out.trans hs)).mono ?_;rintro e w2 ⟨rfl,hc⟩;go_wp2
   exact⟨_,rfl,rfl,hc⟩
  iterate 2
   ·go_wp2
    exact⟨_,rfl,rfl,.refl _⟩
  ·rw[HE.out];have hr:=hid (hi.out.trans hs);clear hs hk;go_wp2
   go_ret
   exact⟨rfl,hr.out⟩
 ·by_cases h2:2≤op∧op≤14
  ·obtain⟨h2,h3⟩:=h2;have e1:(op==1)=false:=by simpa using h1
   obtain⟨z0,hf⟩:∃ z:ByteArray,⟨(dS dst).toArray⟩=z:=⟨_,rfl⟩
   have hh:=fun W (_:Since w W)=>YL dst W HX.out.dst
   rw[hf]at hh;have hu:=hid hh;obtain⟨z1,hd⟩:∃ z:ByteArray,⟨(allS args).toArray⟩=z:=⟨_,rfl⟩
   have hL:=zH ((allS args).length≤1000000000) (by have:=HN.out;simp only[ZM,FIns.d,h1,h2,h3]at this;simp at this;omega);have hg:=fun W (h:Since w W)=>Wi (.slice aa args.length ac) args W (ZN.keep HA.out h) HX.out.args (by have:=hL.out;omega)
   rw[hd]at hg;have ht:=hid hg;have he:y++z0++z1=⟨(ZM (FIns.d ⟨op,dst,two,args,.slice aa args.length ac,imm⟩)).toArray⟩:=by
    apply Zn
    rw[Zg,Zg,←HY.out,←hf,←hd];simp[ZM,FIns.d,opS,h1,h2,h3]
   have HE:=hid he;have ho:y.size+z0.size+z1.size≤1000000000:=by
    have h1:=HN.out;rw[←Zu,←he]at h1;simpa only [ByteArray.size_append]using h1
   have hC:¬ 9223372036854775807<y.size+z0.size:=by omega
   have hB:¬ 9223372036854775807<y.size+z0.size+z1.size:=by omega
   clear ho he hf hh hd hg;clear h1;go_wp2_with fail
   clear c0 hv e1 h2 h3;refine ZG rfl (by decide +kernel) (by decide +kernel)
    [Is (.string y),Is (.pointer (some ⟨w.heap.size,1,none⟩)),Is (.int .i64 dst),Is (.string z0),Is (.string (y++z0)),Is (.pointer (some ⟨w.heap.size,3,none⟩)),Is (.slice aa args.length ac),Is (.string z1),Is (.string (y++z0++z1)),Is (.string (y++z0++z1))]
    (by repeat (first | exact trivial | refine⟨Is.stable _,?_⟩ | refine⟨ZV.stable _ _,?_⟩ | refine⟨IsRows.stable _ _,?_⟩)) ⟨?_,?_,?_,?_,?_,?_,?_,?_,?_,?_,trivial⟩ ?_
   all_goals
    intro vs w9 hs hk;simp only[putAll,Act.put,Zh,Zc,Zd,Is,List.setIfInBounds_toArray,List.set_cons_zero,List.set_cons_succ,Nat.reduceAdd,List.length_cons,List.length_nil]at hk ⊢;try simp only[hk]
   iterate 2
    ·go_wp2
     exact⟨_,rfl,rfl,.refl _⟩
   ·have hq:=HQ.out.keep hs;have hl:w9.cell? ⟨w.heap.size,1,none⟩=some (.int .i64 dst):=hq.cell 1;have hj:=hq.lt;go_wp2
    exact⟨_,rfl,rfl,.refl _⟩
   ·go_wp2_with fail
    refine (hu.out _ (hi.out.trans hs)).mono ?_;rintro e w2 ⟨rfl,hc⟩;go_wp2
    exact⟨_,rfl,rfl,hc⟩
   iterate 2
    ·go_wp2
     exact⟨_,rfl,rfl,.refl _⟩
   ·have hq:=HQ.out.keep hs;have hl:w9.cell? ⟨w.heap.size,3,none⟩=some (.slice aa args.length ac):=hq.cell 3;have hj:=hq.lt;go_wp2
    exact⟨_,rfl,rfl,.refl _⟩
   ·go_wp2_with fail
    refine (ht.out _ (hi.out.trans hs)).mono ?_;rintro e w2 ⟨rfl,hc⟩;go_wp2
    exact⟨_,rfl,rfl,hc⟩
   iterate 2
    ·go_wp2
     exact⟨_,rfl,rfl,.refl _⟩
   ·rw[HE.out];have hr:=hid (hi.out.trans hs);clear hs hk;go_wp2
    go_ret
    exact⟨rfl,hr.out⟩
  ·by_cases hz:op=15
   ·subst hz;clear h1 h2;obtain⟨z0,hf⟩:∃ z:ByteArray,⟨(dS dst).toArray⟩=z:=⟨_,rfl⟩
    have hh:=fun W (_:Since w W)=>YL dst W HX.out.dst
    rw[hf]at hh;have hu:=hid hh;obtain⟨z1,hd⟩:∃ z:ByteArray,⟨(allS args).toArray⟩=z:=⟨_,rfl⟩
    have hL:=zH ((allS args).length≤1000000000) (by have:=HN.out;simp only[ZM,FIns.d,dS]at this;simp at this;omega);have hg:=fun W (h:Since w W)=>Wi (.slice aa args.length ac) args W (ZN.keep HA.out h) HX.out.args (by have:=hL.out;omega)
    rw[hd]at hg;have ht:=hid hg;obtain⟨z2,hm⟩:∃ z:ByteArray,⟨(dS imm).toArray⟩=z:=⟨_,rfl⟩
    have hp:=fun W (_:Since w W)=>YL imm W (Zaj HX.out.imm)
    rw[hm]at hp;have hE:=hid hp;have he:y++z0++z1++z2=⟨(ZM (FIns.d ⟨15,dst,two,args,.slice aa args.length ac,imm⟩)).toArray⟩:=by
     apply Zn
     rw[Zg,Zg,Zg,←HY.out,←hf,←hd,←hm];simp[ZM,FIns.d,opS,dS]
    have HE:=hid he;have ho:y.size+z0.size+z1.size+z2.size≤1000000000:=by
     have h1:=HN.out;rw[←Zu,←he]at h1;simpa only [ByteArray.size_append]using h1
    have hC:¬ 9223372036854775807<y.size+z0.size:=by omega
    have hB:¬ 9223372036854775807<y.size+z0.size+z1.size:=by omega
    have hM:¬ 9223372036854775807<y.size+z0.size+z1.size+z2.size:=by omega
    clear ho he hf hh hd hg hm hp;go_wp2_with fail
    clear c0 hv;refine ZG rfl (by decide +kernel) (by decide +kernel)
     [Is (.string y),Is (.pointer (some ⟨w.heap.size,1,none⟩)),Is (.int .i64 dst),Is (.string z0),Is (.string (y++z0)),Is (.pointer (some ⟨w.heap.size,3,none⟩)),Is (.slice aa args.length ac),Is (.string z1),Is (.string (y++z0++z1)),Is (.pointer (some ⟨w.heap.size,4,none⟩)),Is (.int .i32 imm),Is (.int .i64 imm),Is (.string z2),Is (.string (y++z0++z1++z2)),Is (.string (y++z0++z1++z2))]
     (by repeat (first | exact trivial | refine⟨Is.stable _,?_⟩ | refine⟨ZV.stable _ _,?_⟩ | refine⟨IsRows.stable _ _,?_⟩)) ⟨?_,?_,?_,?_,?_,?_,?_,?_,?_,?_,?_,?_,?_,?_,?_,trivial⟩ ?_
    all_goals
     intro vs w9 hs hk;simp only[putAll,Act.put,Zh,Zc,Zd,Is,List.setIfInBounds_toArray,List.set_cons_zero,List.set_cons_succ,Nat.reduceAdd,List.length_cons,List.length_nil]at hk ⊢;try simp only[hk]
    iterate 2
     ·go_wp2
      exact⟨_,rfl,rfl,.refl _⟩
    ·have hq:=HQ.out.keep hs;have hl:w9.cell? ⟨w.heap.size,1,none⟩=some (.int .i64 dst):=hq.cell 1;have hj:=hq.lt;go_wp2
     exact⟨_,rfl,rfl,.refl _⟩
    ·go_wp2_with fail
     refine (hu.out _ (hi.out.trans hs)).mono ?_;rintro e w2 ⟨rfl,hc⟩;go_wp2
     exact⟨_,rfl,rfl,hc⟩
    iterate 2
     ·go_wp2
      exact⟨_,rfl,rfl,.refl _⟩
    ·have hq:=HQ.out.keep hs;have hl:w9.cell? ⟨w.heap.size,3,none⟩=some (.slice aa args.length ac):=hq.cell 3;have hj:=hq.lt;go_wp2
     exact⟨_,rfl,rfl,.refl _⟩
    ·go_wp2_with fail
     refine (ht.out _ (hi.out.trans hs)).mono ?_;rintro e w2 ⟨rfl,hc⟩;go_wp2
     exact⟨_,rfl,rfl,hc⟩
    iterate 2
     ·go_wp2
      exact⟨_,rfl,rfl,.refl _⟩
    ·have hq:=HQ.out.keep hs;have hl:w9.cell? ⟨w.heap.size,4,none⟩=some (.int .i32 imm):=hq.cell 4;have hj:=hq.lt;go_wp2
     exact⟨_,rfl,rfl,.refl _⟩
    ·go_wp2
     exact⟨_,rfl,rfl,.refl _⟩
    ·go_wp2_with fail
     refine (hE.out _ (hi.out.trans hs)).mono ?_;rintro e w2 ⟨rfl,hc⟩;go_wp2
     exact⟨_,rfl,rfl,hc⟩
    iterate 2
     ·go_wp2
      exact⟨_,rfl,rfl,.refl _⟩
    ·rw[HE.out];have hr:=hid (hi.out.trans hs);clear hs hk;go_wp2
     go_ret
     exact⟨rfl,hr.out⟩
   ·by_cases hD:op=16
    ·subst hD;clear h1 h2 hz;obtain⟨z0,hf⟩:∃ z:ByteArray,⟨(allS args).toArray⟩=z:=⟨_,rfl⟩
     have hQ:=zH ((allS args).length≤1000000000) (by have:=HN.out;simp only[ZM,FIns.d,dS]at this;simp at this;omega);have hh:=fun W (h:Since w W)=>Wi (.slice aa args.length ac) args W (ZN.keep HA.out h) HX.out.args (by have:=hQ.out;omega)
     rw[hf]at hh;have hu:=hid hh;obtain⟨z1,hd⟩:∃ z:ByteArray,⟨(dS imm).toArray⟩=z:=⟨_,rfl⟩
     have hg:=fun W (_:Since w W)=>YL imm W (Zaj HX.out.imm)
     rw[hd]at hg;have ht:=hid hg;have he:y++z0++z1=⟨(ZM (FIns.d ⟨16,dst,two,args,.slice aa args.length ac,imm⟩)).toArray⟩:=by
      apply Zn
      rw[Zg,Zg,←HY.out,←hf,←hd];simp[ZM,FIns.d,opS,dS]
     have HE:=hid he;have ho:y.size+z0.size+z1.size≤1000000000:=by
      have h1:=HN.out;rw[←Zu,←he]at h1;simpa only [ByteArray.size_append]using h1
     have hC:¬ 9223372036854775807<y.size+z0.size:=by omega
     have hB:¬ 9223372036854775807<y.size+z0.size+z1.size:=by omega
     clear ho he hf hh hd hg;go_wp2_with fail
     clear c0 hv;refine ZG rfl (by decide +kernel) (by decide +kernel)
      [Is (.string y),Is (.pointer (some ⟨w.heap.size,3,none⟩)),Is (.slice aa args.length ac),Is (.string z0),Is (.string (y++z0)),Is (.pointer (some ⟨w.heap.size,4,none⟩)),Is (.int .i32 imm),Is (.int .i64 imm),Is (.string z1),Is (.string (y++z0++z1)),Is (.string (y++z0++z1))]
      (by repeat (first | exact trivial | refine⟨Is.stable _,?_⟩ | refine⟨ZV.stable _ _,?_⟩ | refine⟨IsRows.stable _ _,?_⟩)) ⟨?_,?_,?_,?_,?_,?_,?_,?_,?_,?_,?_,trivial⟩ ?_
     all_goals
      intro vs w9 hs hk;simp only[putAll,Act.put,Zh,Zc,Zd,Is,List.setIfInBounds_toArray,List.set_cons_zero,List.set_cons_succ,Nat.reduceAdd,List.length_cons,List.length_nil]at hk ⊢;try simp only[hk]
     iterate 2
      ·go_wp2
       exact⟨_,rfl,rfl,.refl _⟩
     ·have hq:=HQ.out.keep hs;have hl:w9.cell? ⟨w.heap.size,3,none⟩=some (.slice aa args.length ac):=hq.cell 3;have hj:=hq.lt;go_wp2
      exact⟨_,rfl,rfl,.refl _⟩
     ·go_wp2_with fail
      refine (hu.out _ (hi.out.trans hs)).mono ?_;rintro e w2 ⟨rfl,hc⟩;go_wp2
      exact⟨_,rfl,rfl,hc⟩
     iterate 2
      ·go_wp2
       exact⟨_,rfl,rfl,.refl _⟩
     ·have hq:=HQ.out.keep hs;have hl:w9.cell? ⟨w.heap.size,4,none⟩=some (.int .i32 imm):=hq.cell 4;have hj:=hq.lt;go_wp2
      exact⟨_,rfl,rfl,.refl _⟩
     ·go_wp2
      exact⟨_,rfl,rfl,.refl _⟩
     ·go_wp2_with fail
      refine (ht.out _ (hi.out.trans hs)).mono ?_;rintro e w2 ⟨rfl,hc⟩;go_wp2
      exact⟨_,rfl,rfl,hc⟩
     iterate 2
      ·go_wp2
       exact⟨_,rfl,rfl,.refl _⟩
     ·rw[HE.out];have hr:=hid (hi.out.trans hs);clear hs hk;go_wp2
      go_ret
      exact⟨rfl,hr.out⟩
    ·by_cases hG:op=17
     ·subst hG;clear h1 h2 hz hD;obtain⟨z0,hf⟩:∃ z:ByteArray,⟨(dS dst).toArray⟩=z:=⟨_,rfl⟩
      have hh:=fun W (_:Since w W)=>YL dst W HX.out.dst
      rw[hf]at hh;have hu:=hid hh;obtain⟨z1,hd⟩:∃ z:ByteArray,⟨(dS imm).toArray⟩=z:=⟨_,rfl⟩
      have hg:=fun W (_:Since w W)=>YL imm W (Zaj HX.out.imm)
      rw[hd]at hg;have ht:=hid hg;obtain⟨z2,hm⟩:∃ z:ByteArray,⟨(allS args).toArray⟩=z:=⟨_,rfl⟩
      have hK:=zH ((allS args).length≤1000000000) (by have:=HN.out;simp only[ZM,FIns.d,dS]at this;simp at this;omega);have hp:=fun W (h:Since w W)=>Wi (.slice aa args.length ac) args W (ZN.keep HA.out h) HX.out.args (by have:=hK.out;omega)
      rw[hm]at hp;have hE:=hid hp;have he:y++z0++z1++z2=⟨(ZM (FIns.d ⟨17,dst,two,args,.slice aa args.length ac,imm⟩)).toArray⟩:=by
       apply Zn
       rw[Zg,Zg,Zg,←HY.out,←hf,←hd,←hm];simp[ZM,FIns.d,opS,dS]
      have HE:=hid he;have ho:y.size+z0.size+z1.size+z2.size≤1000000000:=by
       have h1:=HN.out;rw[←Zu,←he]at h1;simpa only [ByteArray.size_append]using h1
      have hC:¬ 9223372036854775807<y.size+z0.size:=by omega
      have hB:¬ 9223372036854775807<y.size+z0.size+z1.size:=by omega
      have hM:¬ 9223372036854775807<y.size+z0.size+z1.size+z2.size:=by omega
      clear ho he hf hh hd hg hm hp;go_wp2_with fail
      clear c0 hv;refine ZG rfl (by decide +kernel) (by decide +kernel)
       [Is (.string y),Is (.pointer (some ⟨w.heap.size,1,none⟩)),Is (.int .i64 dst),Is (.string z0),Is (.string (y++z0)),Is (.pointer (some ⟨w.heap.size,4,none⟩)),Is (.int .i32 imm),Is (.int .i64 imm),Is (.string z1),Is (.string (y++z0++z1)),Is (.pointer (some ⟨w.heap.size,3,none⟩)),Is (.slice aa args.length ac),Is (.string z2),Is (.string (y++z0++z1++z2)),Is (.string (y++z0++z1++z2))]
       (by repeat (first | exact trivial | refine⟨Is.stable _,?_⟩ | refine⟨ZV.stable _ _,?_⟩ | refine⟨IsRows.stable _ _,?_⟩)) ⟨?_,?_,?_,?_,?_,?_,?_,?_,?_,?_,?_,?_,?_,?_,?_,trivial⟩ ?_
      all_goals
       intro vs w9 hs hk;simp only[putAll,Act.put,Zh,Zc,Zd,Is,List.setIfInBounds_toArray,List.set_cons_zero,List.set_cons_succ,Nat.reduceAdd,List.length_cons,List.length_nil]at hk ⊢;try simp only[hk]
      iterate 2
       ·go_wp2
        exact⟨_,rfl,rfl,.refl _⟩
      ·have hq:=HQ.out.keep hs;have hl:w9.cell? ⟨w.heap.size,1,none⟩=some (.int .i64 dst):=hq.cell 1;have hj:=hq.lt;go_wp2
       exact⟨_,rfl,rfl,.refl _⟩
      ·go_wp2_with fail
       refine (hu.out _ (hi.out.trans hs)).mono ?_;rintro e w2 ⟨rfl,hc⟩;go_wp2
       exact⟨_,rfl,rfl,hc⟩
      iterate 2
       ·go_wp2
        exact⟨_,rfl,rfl,.refl _⟩
      ·have hq:=HQ.out.keep hs;have hl:w9.cell? ⟨w.heap.size,4,none⟩=some (.int .i32 imm):=hq.cell 4;have hj:=hq.lt;go_wp2
       exact⟨_,rfl,rfl,.refl _⟩
      ·go_wp2
       exact⟨_,rfl,rfl,.refl _⟩
      ·go_wp2_with fail
       refine (ht.out _ (hi.out.trans hs)).mono ?_;rintro e w2 ⟨rfl,hc⟩;go_wp2
       exact⟨_,rfl,rfl,hc⟩
      iterate 2
       ·go_wp2
        exact⟨_,rfl,rfl,.refl _⟩
      ·have hq:=HQ.out.keep hs;have hl:w9.cell? ⟨w.heap.size,3,none⟩=some (.slice aa args.length ac):=hq.cell 3;have hj:=hq.lt;go_wp2
       exact⟨_,rfl,rfl,.refl _⟩
      ·go_wp2_with fail
       refine (hE.out _ (hi.out.trans hs)).mono ?_;rintro e w2 ⟨rfl,hc⟩;go_wp2
       exact⟨_,rfl,rfl,hc⟩
      iterate 2
       ·go_wp2
        exact⟨_,rfl,rfl,.refl _⟩
      ·rw[HE.out];have hr:=hid (hi.out.trans hs);clear hs hk;go_wp2
       go_ret
       exact⟨rfl,hr.out⟩
     ·by_cases hI:op=18
      ·subst hI;clear h1 h2 hz hD hG;obtain⟨z0,hf⟩:∃ z:ByteArray,⟨(dS dst).toArray⟩=z:=⟨_,rfl⟩
       have hh:=fun W (_:Since w W)=>YL dst W HX.out.dst
       rw[hf]at hh;have hu:=hid hh;obtain⟨z1,hd⟩:∃ z:ByteArray,⟨(dS two).toArray⟩=z:=⟨_,rfl⟩
       have hg:=fun W (_:Since w W)=>YL two W HX.out.two
       rw[hd]at hg;have ht:=hid hg;obtain⟨z2,hm⟩:∃ z:ByteArray,⟨(allS args).toArray⟩=z:=⟨_,rfl⟩
       have hK:=zH ((allS args).length≤1000000000) (by have:=HN.out;simp only[ZM,FIns.d,dS]at this;simp at this;omega);have hp:=fun W (h:Since w W)=>Wi (.slice aa args.length ac) args W (ZN.keep HA.out h) HX.out.args (by have:=hK.out;omega)
       rw[hm]at hp;have hE:=hid hp;have he:y++z0++z1++z2=⟨(ZM (FIns.d ⟨18,dst,two,args,.slice aa args.length ac,imm⟩)).toArray⟩:=by
        apply Zn
        rw[Zg,Zg,Zg,←HY.out,←hf,←hd,←hm];simp[ZM,FIns.d,opS,dS]
       have HE:=hid he;have ho:y.size+z0.size+z1.size+z2.size≤1000000000:=by
        have h1:=HN.out;rw[←Zu,←he]at h1;simpa only [ByteArray.size_append]using h1
       have hC:¬ 9223372036854775807<y.size+z0.size:=by omega
       have hB:¬ 9223372036854775807<y.size+z0.size+z1.size:=by omega
       have hM:¬ 9223372036854775807<y.size+z0.size+z1.size+z2.size:=by omega
       clear ho he hf hh hd hg hm hp;go_wp2_with fail
       clear c0 hv;refine ZG rfl (by decide +kernel) (by decide +kernel)
        [Is (.string y),Is (.pointer (some ⟨w.heap.size,1,none⟩)),Is (.int .i64 dst),Is (.string z0),Is (.string (y++z0)),Is (.pointer (some ⟨w.heap.size,2,none⟩)),Is (.int .i64 two),Is (.string z1),Is (.string (y++z0++z1)),Is (.pointer (some ⟨w.heap.size,3,none⟩)),Is (.slice aa args.length ac),Is (.string z2),Is (.string (y++z0++z1++z2)),Is (.string (y++z0++z1++z2))]
        (by repeat (first | exact trivial | refine⟨Is.stable _,?_⟩ | refine⟨ZV.stable _ _,?_⟩ | refine⟨IsRows.stable _ _,?_⟩)) ⟨?_,?_,?_,?_,?_,?_,?_,?_,?_,?_,?_,?_,?_,?_,trivial⟩ ?_
       all_goals
        intro vs w9 hs hk;simp only[putAll,Act.put,Zh,Zc,Zd,Is,List.setIfInBounds_toArray,List.set_cons_zero,List.set_cons_succ,Nat.reduceAdd,List.length_cons,List.length_nil]at hk ⊢;try simp only[hk]
       iterate 2
        ·go_wp2
         exact⟨_,rfl,rfl,.refl _⟩
       ·have hq:=HQ.out.keep hs;have hl:w9.cell? ⟨w.heap.size,1,none⟩=some (.int .i64 dst):=hq.cell 1;have hj:=hq.lt;go_wp2
        exact⟨_,rfl,rfl,.refl _⟩
       ·go_wp2_with fail
        refine (hu.out _ (hi.out.trans hs)).mono ?_;rintro e w2 ⟨rfl,hc⟩;go_wp2
        exact⟨_,rfl,rfl,hc⟩
       iterate 2
        ·go_wp2
         exact⟨_,rfl,rfl,.refl _⟩
       ·have hq:=HQ.out.keep hs;have hl:w9.cell? ⟨w.heap.size,2,none⟩=some (.int .i64 two):=hq.cell 2;have hj:=hq.lt;go_wp2
        exact⟨_,rfl,rfl,.refl _⟩
       ·go_wp2_with fail
        refine (ht.out _ (hi.out.trans hs)).mono ?_;rintro e w2 ⟨rfl,hc⟩;go_wp2
        exact⟨_,rfl,rfl,hc⟩
       iterate 2
        ·go_wp2
         exact⟨_,rfl,rfl,.refl _⟩
       ·have hq:=HQ.out.keep hs;have hl:w9.cell? ⟨w.heap.size,3,none⟩=some (.slice aa args.length ac):=hq.cell 3;have hj:=hq.lt;go_wp2
        exact⟨_,rfl,rfl,.refl _⟩
       ·go_wp2_with fail
        refine (hE.out _ (hi.out.trans hs)).mono ?_;rintro e w2 ⟨rfl,hc⟩;go_wp2
        exact⟨_,rfl,rfl,hc⟩
       iterate 2
        ·go_wp2
         exact⟨_,rfl,rfl,.refl _⟩
       ·rw[HE.out];have hr:=hid (hi.out.trans hs);clear hs hk;go_wp2
        go_ret
        exact⟨rfl,hr.out⟩
      ·have hJ:2≤op→¬ op≤14:=fun a b=>h2 ⟨a,b⟩
       by_cases ha:2≤op
       ·have hb:=hJ ha;clear hJ;have he:(⟨#[63]⟩:ByteArray)=⟨(ZM (FIns.d ⟨op,dst,two,args,.slice aa args.length ac,imm⟩)).toArray⟩:=by
         apply Zn
         simp[ZM,FIns.d,h1,hz,hD,hG,hI,hb]
        have HE:=hid he;clear he;clear h2;go_wp2
        go_ret
        exact⟨by rw[←HE.out];rfl,hi.out⟩
       ·clear hJ;have he:(⟨#[63]⟩:ByteArray)=⟨(ZM (FIns.d ⟨op,dst,two,args,.slice aa args.length ac,imm⟩)).toArray⟩:=by
         apply Zn
         simp[ZM,FIns.d,h1,h2,hz,hD,hG,hI]
        have HE:=hid he;clear he;go_wp2
        go_ret
        exact⟨by rw[←HE.out];rfl,hi.out⟩
end Go.Proofs.YtmhojfpidedjeaaGreatDoor
