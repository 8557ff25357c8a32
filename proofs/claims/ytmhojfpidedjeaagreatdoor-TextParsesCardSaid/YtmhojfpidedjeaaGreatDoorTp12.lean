import Derived.Test.YtmhojfpidedjeaaGreatDoorTp11
namespace Go.Proofs.YtmhojfpidedjeaaGreatDoor
open Go.RowKit Go.Lib
set_option linter.unusedVariables false
set_option maxHeartbeats 1000000
set_option maxRecDepth 100000
theorem list3 {α:Type} {l : List α} (h:l.length=3):∃ a b c,l=[a,b,c]:=by
 match l,h with
 | [a,b,c],_=>exact⟨a,b,c,rfl⟩
theorem Zhe {α:Type} {l : List α} (h:l.length=4):∃ a b c d,l=[a,b,c,d]:=by
 match l,h with
 | [a,b,c,d],_=>exact⟨a,b,c,d,rfl⟩
theorem Zbd {α:Type} {l : List α} (h:l.length=2):∃ a b,l=[a,b]:=by
 match l,h with
 | [a,b],_=>exact⟨a,b,rfl⟩
theorem ZgU {α:Type} {l : List α} (h:2≤l.length):∃ a b r,l=a::b::r:=by
 match l,h with
 | a::b::r,_=>exact⟨a,b,r,rfl⟩
theorem Y2 {x : Int} (h:In32W x):wrap32 x=x:=by unfold In32W at h;unfold wrap32;omega
theorem Yz {w : World} {g : Nat} {ns:List Int} (hc:∀ (j:Nat) (x:Value),(ns.map (Value.int .i64))[j]? = some x→w.cell? ⟨g,j,none⟩=some x) (hg:g<w.heap.size) (i k cap:Nat) (hd:i+k≤ns.length) (hk:k≤cap) (hb:cap≤maxLen):Zm w (.slice (some ⟨g,i,none⟩) k cap) ((ns.drop i).take k):=by
 have hl:((ns.drop i).take k).length=k:=by rw[List.length_take,List.length_drop];omega
 refine .inr ⟨g,i,cap,by rw[hl],by omega,hb,hg,fun j n hj=>?_⟩;have ha:=(List.getElem?_eq_some_iff.1 hj).1;rw[hl]at ha;rw[List.getElem?_take_of_lt ha,List.getElem?_drop]at hj;exact hc (i+j) (.int .i64 n) (by rw[List.getElem?_map,hj];rfl)
theorem X4 {w : World} {g : Nat} {ns:List Int} (hc:∀ (j:Nat) (x:Value),(ns.map (Value.int .i64))[j]? = some x→w.cell? ⟨g,j,none⟩=some x) (hg:g<w.heap.size) (i k cap:Nat) (hb:i+k≤ns.length) (hd:ns.length-i=k) (hk:k≤cap) (ha:cap≤maxLen):Zm w (.slice (some ⟨g,i,none⟩) k cap) (ns.drop i):=by
 have:=Yz hc hg i k cap hb hk ha
 rwa [List.take_of_length_le (by rw[List.length_drop];omega)]at this
theorem JZ (op:Int):2≤least op∧least op≤4∧most op≤6:=by
 unfold least most;by_cases h1:op=1<;>by_cases h2:op=17<;>by_cases h3:op=18<;>simp[h1,h2,h3]
theorem Xs {x : Bool} (h:x=true):Yj 0 x 70=70:=by subst h;rfl
theorem WT {x : Bool} (h:x=false):Yj 0 x 70=0:=by subst h;rfl
section
variable {w0:World} {pb:Nat} {params pl:Int} {bv:Value} {bl:List FBlk}
def ZfJ (w0:World) (pb:Nat) (params pl:Int) (bv:Value) (bl:List FBlk) (op:Int) (l:List ByteArray) (w:World) (x:Ending) (w':World):Prop:=
 x=.returned (.tuple #[])∧∃ e' bl',RPa w0 pb params pl e' bv bl' w'∧Turn (PaOwn pb bv bl) w w'∧JI (YZ ⟨params,bl.map FBlk.d,pl⟩ op l) e' params bl'
theorem Ze4 (w:World) (h:RPa w0 pb params pl 0 bv bl w) (op:Int) (hQ:1≤op∧op≤18) (v:Value) (l:List ByteArray) (hl:StrsIn w v l) (hP:Stays (PaOwn pb bv bl) w v) (hn:l.length≤400000) (b:FBlk) (hb:bl[bl.length-1]? = some b) (H6:bl.length≤1000000) (H5:b.ins.length≤1000000):Calls Tryz.prog 92 #[.pointer (some ⟨pb,0,none⟩),.int .i64 op,v] w (ZfJ w0 pb params pl bv bl op l w):=by
 obtain⟨a,c,e1,_⟩:=RowIn.shape hl;obtain⟨n,hT⟩:∃ n,l.length=n:=⟨_,rfl⟩
 rw[hT]at e1;subst e1;have H:=hid h;have HL:=hid (fun (S:Nat→Prop) w' (hS:∀ q,S q→PaOwn pb bv bl q∨w.heap.size≤q) (t:Turn S w w')=>(RowIn.turn hl t (fun q hq hr=>by rcases hS q hr with h1 | h1;exact (hP q hq).1 h1;have:=(hP q hq).2;omega) (fun _ _ h=>h):StrsIn w' _ l))
 have td:=hid hP;have HB:=hid hb;have hX:=hid hT;rw[hT]at hn;have tk:=hid hQ;clear h hl hP hb hT hQ;go_enter Tryz.func92,Tryz.ntmps92
 go_wp2_with fail
 have hQ:=tk.out;obtain⟨L,hL⟩:∃ L,least op=L:=⟨_,rfl⟩
 obtain⟨M,hM⟩:∃ M,most op=M:=⟨_,rfl⟩
 have hw:=Zda op w ⟨by omega,by omega⟩;rw[hL,hM]at hw;have tC:2≤L∧L≤4∧M≤6:=by
  rw[←hL,←hM];exact JZ op
 have hd:=hid (And.intro hL hM);have HW:=hid hw;clear hL hM hw hQ;refine HW.out.mono ?_;rintro e0 w0' ⟨rfl,rfl⟩;by_cases hx:n<L∨M<n
 ·have HY:=hid (show YZ ⟨params,bl.map FBlk.d,pl⟩ op l=.error 70 from by
   unfold YZ;rw[if_neg];rw[hd.out.1,hd.out.2,hX.out];omega)
  have h8:∀ w',RPa w0 pb params pl 70 bv bl w'→Turn (fun q=>q=pb) w0' w'→ZfJ w0 pb params pl bv bl op l w0' (.returned (.tuple #[])) w':=fun w' h1 h2=>⟨rfl,70,bl,h1,h2.mono (fun q _ hq=>.inl hq),by rw[HY.out];exact⟨rfl,by decide⟩⟩
  have Hg:=hid h8;clear h8;rcases hx with hx|hx
  ·go_wp2_with fail
   refine (ZL w0' H.out _ 70).mono ?_;rintro e1 w1 ⟨rfl,hp,ht⟩;rw[Xs (by first | rfl | (simp;omega))]at hp;have c3:w1.cell? ⟨pb,3,none⟩=some (.int .i64 70):=hp.cell 3;have hu:=hp.box.lt;have HF:=hid (Hg.out w1 hp ht);clear hp ht;go_wp2
   go_end0
   exact HF.out
  ·by_cases tr:n<L
   iterate 2
    ·go_wp2_with fail
     refine (ZL w0' H.out _ 70).mono ?_;rintro e1 w1 ⟨rfl,hp,ht⟩;rw[Xs (by first | rfl | (simp;omega))]at hp;have c3:w1.cell? ⟨pb,3,none⟩=some (.int .i64 70):=hp.cell 3;have hu:=hp.box.lt;have HF:=hid (Hg.out w1 hp ht);clear hp ht;go_wp2
     go_end0
     exact HF.out
 ·have Hj:L≤n∧n≤M:=by omega
  clear hx;go_wp2_with fail
  refine (ZL w0' H.out _ 70).mono ?_;rintro e1 w1 ⟨rfl,hp,ht⟩;rw[WT (by first | rfl | (simp;omega))]at hp;have c3:w1.cell? ⟨pb,3,none⟩=some (.int .i64 0):=hp.cell 3;have hu:=hp.box.lt;have HP:=hid hp;have HT:=hid ht;clear hp ht;go_wp2_with fail
  have Hs:Stays (fun q=>q=pb) w1 (.slice a n c):=td.out.mono (fun q hq=>.inl (.inl hq)) HT.out.size
  refine (XF w1 HP.out _ l (HL.out _ w1 (fun q hq=>.inl (.inl hq)) HT.out) Hs (by rw[hX.out];omega)).mono ?_
  rintro e4 w4 ⟨rv,rfl,hi,Ht,Hp⟩;obtain⟨ns,hR⟩:∃ ns,numsW l=ns:=⟨_,rfl⟩
  have hI:ns.length=n:=by rw[←hR,←hX.out];unfold numsW;simp
  rw[hR,hI]at hi;obtain⟨g,gc,rfl,tA,Hy,Hx,Hw,_,Hv⟩:=YT hi (by omega);have HI:=hid hR;have he:=hid hI;have tm:=hid Hv;have tj:=hid Ht;have HH:=hid (HT.out.trans Hp);have hG:=hid Hy;clear Hy;have HG:=hid (And.intro Hx Hw);clear hi Ht Hp hR hI Hv Hs c3 Hx hu Hw;go_upto_region 8 with (fail)
  obtain⟨xb,hN⟩:∃ xb,w4.heap.size=xb:=⟨_,rfl⟩
  have hJ:HeapIs (w4.alloc (.cells #[.int .i64 op,.int .i64 0,.int .i64 0,.slice none 0 0,.int .i32 0] 51)) xb #[.int .i64 op,.int .i64 0,.int .i64 0,.slice none 0 0,.int .i32 0] 51:=by rw[←hN];exact HeapIs.new _ _ _
  have HM:=zH (g<xb) (by have:=HG.out.2;omega);have Hi:=zH (w0'.heap.size≤xb) (by rw[←hN];exact HH.out.size);have th:=zH (pb<xb) (by have:=H.out.box.lt;have:=Hi.out;omega);obtain⟨w5,hO⟩:∃ w5,w4.alloc (.cells #[.int .i64 op,.int .i64 0,.int .i64 0,.slice none 0 0,.int .i32 0] 51)=w5:=⟨_,rfl⟩
  have hA:Since w4 w5:=by rw[←hO];exact (Since.refl _).alloc _
  rw[hO]at hJ;rw[hN,hO];have ha:=hid hJ;have ta:=hid (HH.out.later (Turn.since (S:=fun q=>q=pb) hA) (fun q hq=>.inl hq));have tq:=hid (tj.out.box.keep hA);have Hh:Hid (YZ ⟨params,bl.map FBlk.d,pl⟩ op l=if ZZ l then .ok ⟨params,onLast ⟨params,bl.map FBlk.d,pl⟩ (fun b=>⟨b.phis,b.ins++[YF op (numsW l)],b.term⟩),3⟩ else .error 71):=hid (by
   unfold YZ;rw[if_pos];rw[hd.out.1,hd.out.2,hX.out];exact Hj)
  have hc:=hid (fun (j:Nat) (x:Value) (h:(ns.map (Value.int .i64))[j]? = some x)=>((hA.cell (p:=⟨g,j,none⟩) HG.out.2).trans (tm.out j x h):w5.cell? ⟨g,j,none⟩=some x))
  have hz:=zH (∀ y∈ns,In32W y) (fun y hy=>by rw[←HI.out]at hy;unfold numsW at hy;obtain⟨z,_,rfl⟩:=List.mem_map.1 hy;exact YH z);have hv:=zH (¬ (PaS w0 pb bv bl g∨g=xb)) (fun h=>by rcases h with h | h;have:=H.out.ltS g h;have:=HG.out.1;have:=HT.out.size;omega;have:=HM.out;omega);have hg:=zH (g<w5.heap.size) (Nat.lt_of_lt_of_le HG.out.2 hA.size);clear hJ hN hA hO
  rename_i K1 aK1 K2 aK2
  have HO:=hid aK1;have HJ:Hid (∀ {u1 u2 u3 u4 u5 u6 u7 u8 u10 u11 u12 u13 u14 u15 u16 u17 u18 u19 u20 u21 u22 u23 u24 u25 u26 u27 u28 u29 u30 u31 u32 u33 u34 u35 u36 u37 u38 u39 u40 u41 u42 u43 u44 u45 u46 u47 u48 u49 u50 u51 u52 u53 u54 u55 u56 u57 u58 u59 u60 u61 u62 u63 u64 u65 u66 u67 u68 u69 u70 u71 u72 u73 u74 u75 u76 u77 u78 u79 u80 u81 u82 u83 u84 u85 u86 u87 u88 u89 u90 u91 u92 u93 u94 u95 u96 u97 u98 u99 u100 u101 u102 u103 u104 u105 u106 u107 u108 u109 u110 u111 u112 u113 u114 u115 u116 u117 u118 u119 u120 u121 u122 u123 u124 u125 u126 u127 u128 u129 u130 u131 u132 u133 u134:Value} {w9:World} (X:FIns),HeapIs w9 xb (ZA X).toArray 51→Turn (fun q=>q=xb) w5 w9→WK (fun q=>PaS w0 pb bv bl q∨q=xb) w5 X→FIns.d X=YF op ns→K1 ⟨(Value.pointer (some ⟨pb,0,none⟩)::u1::u2::u3::u4::u5::u6::u7::u8::Value.pointer (some ⟨xb,0,none⟩)::u10::u11::u12::u13::u14::u15::u16::u17::u18::u19::u20::u21::u22::u23::u24::u25::u26::u27::u28::u29::u30::u31::u32::u33::u34::u35::u36::u37::u38::u39::u40::u41::u42::u43::u44::u45::u46::u47::u48::u49::u50::u51::u52::u53::u54::u55::u56::u57::u58::u59::u60::u61::u62::u63::u64::u65::u66::u67::u68::u69::u70::u71::u72::u73::u74::u75::u76::u77::u78::u79::u80::u81::u82::u83::u84::u85::u86::u87::u88::u89::u90::u91::u92::u93::u94::u95::u96::u97::u98::u99::u100::u101::u102::u103::u104::u105::u106::u107::u108::u109::u110::u111::u112::u113::u114::u115::u116::u117::u118::u119::u120::u121::u122::u123::u124::u125::u126::u127::u128::u129::u130::u131::u132::u133::u134::[]).toArray,[]⟩ w9):=by
   clear aK1 aK2;apply hid
   intro u1 u2 u3 u4 u5 u6 u7 u8 u10 u11 u12 u13 u14 u15 u16 u17 u18 u19 u20 u21 u22 u23 u24 u25 u26 u27 u28 u29 u30 u31 u32 u33 u34 u35 u36 u37 u38 u39 u40 u41 u42 u43 u44 u45 u46 u47 u48 u49 u50 u51 u52 u53 u54 u55 u56 u57 u58 u59 u60 u61 u62 u63 u64 u65 u66 u67 u68 u69 u70 u71 u72 u73 u74 u75 u76 u77 u78 u79 u80 u81 u82 u83 u84 u85 u86 u87 u88 u89 u90 u91 u92 u93 u94 u95 u96 u97 u98 u99 u100 u101 u102 u103 u104 u105 u106 u107 u108 u109 u110 u111 u112 u113 u114 u115 u116 u117 u118 u119 u120 u121 u122 u123 u124 u125 u126 u127 u128 u129 u130 u131 u132 u133 u134 w9 X Hm ht Hk Hl;refine HO.out _ _ ?_;have hY:=ta.out.later ht (fun q hq=>.inr (by subst hq;exact Hi.out))
   have hh:=H.out.reBox hY (tq.out.turn ht (fun e=>by have:=th.out;omega));have H9:=hid hY;have ti:=hid hh;have H8:=hid Hm;have HE:=hid (Hk.turn ht (S':=PaS w0 pb bv bl) (fun q hq=>.inr hq) (fun q hq=>.inl (.inl hq)))
   have H7:=hid Hl;have hH:=hid (hh.last b HB.out);have h4:0<bl.length:=by
    rcases Nat.eq_zero_or_pos bl.length with h0|h0
    ·have:=(List.getElem?_eq_some_iff.1 HB.out).1;omega
    ·exact h0
   obtain⟨bb,bc,Hz,H3,HR,_,Ha,HS,hB⟩:=YT hh.row h4;obtain⟨mm,h6⟩:∃ mm,bl.length=mm+1:=⟨bl.length-1,by omega⟩
   rw[h6]at Hz H6 H3;subst Hz;have h7:bl.length-1=mm:=by omega
   obtain⟨pa,pc,hs⟩:=Ze hH.out.ins;obtain⟨pn,h5⟩:∃ pn,b.ins.length=pn:=⟨_,rfl⟩
   rw[h5]at hs H5;have c1:w9.cell? ⟨pb,1,none⟩=some (.slice (some ⟨bb,0,none⟩) (mm+1) bc):=hh.cell 1;have c2:w9.cell? ⟨bb,mm*6+1,none⟩=some (.slice pa pn pc):=by
    rw[←hs];refine hB (mm*6+1) b.inv ?_;have h9:=YP fbcells 6 Zs bl mm 1 b (by rw[←h7];exact HB.out) (by decide);exact h9
   obtain⟨cur,Hb⟩:=Xz hh.row (q:=bb) rfl;have tp:=zH (HeapIs w9 bb cur 57) Hb;have He:=zH (OwnRow ZA 5 51 0 w9 (.slice pa pn pc) b.ins) (by rw[←hs];exact hH.out.ins);have hu:pb<w9.heap.size:=hh.box.lt;have tn:=hid c1;have HN:=hid c2;have HK:=hid h7;have hW:=hid hs;have Hf:=hid h5;have tl:=hid h6;have hF:=zH (pb<w9.heap.size∧bb<w9.heap.size) ⟨hu,Ha⟩;have hE:=hid (show ¬ (Value.slice pa pn pc).ownBlock=some pb∧¬ (Value.slice pa pn pc).ownBlock=some bb∧¬ (Value.slice pa pn pc).ownBlock=some xb from by
    rw[←hs];exact⟨Zk hH.out.ins hh.box (by decide),fun e=>Z9 hH.out.ins hh.row (by decide) bb e rfl,fun e=>by have:=H.out.lt xb (.inr (.inr ⟨b,HB.out,.inr e⟩));have:=Hi.out;omega⟩)
   clear hh h4 Ha HS hB h7 hs h5 h6 HR c2 Hb Hm ht Hk Hl hY;go_wp2_with fail
   clear c1 hu;refine Z4 18 17 [17] [0,0,0,0,0,0,0,0,0,0,0,0,0,0,0,0,0,0] [1,1,1,1,1,1,0,0,0,0,0,0,0,0,0,0,0,0] [0,0,0,0,0,0,0,0,0,0,0,0,0,0,0,0,0,1] (fun q=>(Value.slice pa pn pc).ownBlock=some q) (fun p w8=>p=0→Since w9 w8) rfl (by decide +kernel) (by decide +kernel) (by decide +kernel) (by decide) (by decide +kernel)
    [Is (.pointer (some ⟨pb,0,none⟩)),Is (.pointer (some ⟨pb,0,none⟩)),Is (.pointer (some ⟨pb,0,none⟩)),Is (.pointer (some ⟨pb,1,none⟩)),Is (.slice (some ⟨bb,0,none⟩) (mm+1) bc),Is (.int .i64 mm),Is (.pointer (some ⟨pb,0,none⟩)),Is (.pointer (some ⟨pb,0,none⟩)),Is (.pointer (some ⟨pb,0,none⟩)),Is (.pointer (some ⟨pb,1,none⟩)),Is (.slice (some ⟨bb,0,none⟩) (mm+1) bc),Is (.int .i64 mm),Is (.pointer (some ⟨bb,mm*6,none⟩)),Is (.pointer (some ⟨bb,mm*6+1,none⟩)),Is (Value.slice pa pn pc),Is (fiv X),ZW ZA 51 (fun q=>(Value.slice pa pn pc).ownBlock=some q) X,Yb ZA 5 51 w9 (Value.slice pa pn pc) (b.ins++[X])]
    (by repeat (first | exact trivial | refine⟨fun h=>absurd rfl h,?_⟩ | refine⟨fun _=>Is.stableT _ _,?_⟩ | refine⟨fun _=>Any.stableT _,?_⟩ | refine⟨fun _=>ZW.stableT _ _ _ _,?_⟩)) (by repeat (first | exact trivial | refine⟨Is.stable _,?_⟩ | refine⟨Any.stable,?_⟩ | refine⟨ZW.stable _ _ _ _,?_⟩ | refine⟨Yb.stable _ _ _ _ _ _,?_⟩)) (fun _=>(Since.refl w9).drew) ⟨?_,?_,?_,?_,?_,?_,?_,?_,?_,?_,?_,?_,?_,?_,?_,?_,?_,?_,trivial⟩ ?_
   rotate_right
   ·intro vs w8 ht hf hk;simp only[List.take,List.drop,putAll,Act.put,Zc,Zd,Is,List.setIfInBounds_toArray,List.set_cons_zero,List.set_cons_succ,Nat.reduceAdd]at hk ⊢;try simp only[hk]
    obtain⟨wa,Hq,Ho,hm,hj⟩:Yb ZA 5 51 w9 (Value.slice pa pn pc) (b.ins++[X]) (vs 17) w8:=by exact hk.2.2.2.2.2.2.2.2.2.2.2.2.2.2.2.2.2.1
    generalize vs 17=nw at *;obtain⟨ja,jc,Hu⟩:=Ze hj;rw[List.length_append,Hf.out]at Hu;subst Hu;have hK:=tp.out.turn ht hE.out.2.1;have ts:=hK.lt;have tt:=hK.frozen;have k1:w8.cell? ⟨bb,mm*6+1,none⟩=some (Value.slice pa pn pc):=(ht.cell hF.out.2 hE.out.2.1).trans HN.out;have HU:=hid hj;have Hc:=hid ht;have tD:=hid Ho;have te:=hid Hq;have HX:=hid hm;clear hk hf ht Hq Ho hm hK hj;go_wp2
    go_end0
    have ho:=hH.out;have HQ:=Zi ho.phis Hc.out (fun q hq hr=>Z9 ho.phis ho.ins (by decide) q hq (by rw[hW.out];exact hr))
    have HZ:ZP w9 b.inv (.slice ja (pn+1) jc):=fun q hq=>by
     rcases HX.out q hq with h1|h1
     ·exact .inl (by rw[hW.out];exact h1)
     ·have:=te.out.size;exact .inr (by omega)
    have Hn:=PaM.upd ti.out (b':={ b with ins:=b.ins++[X],inv:=.slice ja (pn+1) jc }) HB.out (bb:=bb) (cap:=bc) (by rw[tl.out]) (w1:=w8) (Hc.out.mono (fun q _ hq=>.inr (by rw[hW.out];exact hq))) 1 (by decide) (.slice ja (pn+1) jc) rfl HQ HU.out (fun q hq=>.inl hq) HZ ho.phi (fun p hp=>by rcases List.mem_append.1 hp with h1 | h1;exact ho.inx p h1;rw[List.mem_singleton.1 h1];exact HE.out) ho.term
    rw[HK.out]at Hn;refine⟨rfl,numsE 0 l,_,Hn,?_,?_⟩
    ·refine ((H9.out.mono fun q _ hq=>.inl hq:Turn (PaOwn pb _ bl) w0' w9).trans (Hc.out.mono fun q _ hq=>.inr (.inr ⟨b,HB.out,.inr (by rw[hW.out];exact hq)⟩))).setCell ?_ _
     exact .inr (.inl rfl)
    ·rw[Hh.out];unfold numsE
     cases tv:ZZ l
     ·exact⟨rfl,by decide⟩
     ·refine⟨rfl,rfl,?_⟩;have:=WP (b':={ b with ins:=b.ins++[X],inv:=.slice ja (pn+1) jc }) HB.out ⟨params,bl.map FBlk.d,pl⟩ rfl (fun b=>⟨b.phis,b.ins++[YF op (numsW l)],b.term⟩) (by rw[HI.out,←H7.out];simp[FBlk.d]);rw[HK.out]at this;exact this
   all_goals
    intro p vs w8 tw tx ht hf hk;simp only[List.take,putAll,Act.put,Zh,Zd,Is,List.setIfInBounds_toArray,List.set_cons_zero,List.set_cons_succ,Nat.reduceAdd]at hk ⊢;try simp only[hk]
   iterate 2
    iterate 4
     ·go_wp2
      exact⟨_,rfl,rfl,Since.refl _,hf⟩
    ·have k1:w8.cell? ⟨pb,1,none⟩=some (.slice (some ⟨bb,0,none⟩) (mm+1) bc):=(ht.cell hF.out.1 hE.out.1).trans tn.out;have k2:pb<w8.heap.size:=Nat.lt_of_lt_of_le hF.out.1 ht.size;go_wp2
     exact⟨_,rfl,rfl,Since.refl _,hf⟩
    ·go_wp2
     exact⟨_,rfl,rfl,Since.refl _,hf⟩
   iterate 2
    ·go_wp2
     exact⟨_,rfl,rfl,Since.refl _,hf⟩
   ·have k1:w8.cell? ⟨bb,mm*6+1,none⟩=some (Value.slice pa pn pc):=(ht.cell hF.out.2 hE.out.2.1).trans HN.out;have k2:bb<w8.heap.size:=Nat.lt_of_lt_of_le hF.out.2 ht.size;go_wp2
    exact⟨_,rfl,rfl,Since.refl _,hf⟩
   ·have H2:=H8.out.turn ht hE.out.2.2;clear hk;refine wpList_load_row rfl _ _ rfl xb rfl 51 _ (0,0) _ H2 Tryz.underlying51 rfl (by kernel_rfl) ?_;go_wp2
    exact⟨_,rfl,rfl,Since.refl _,hf⟩
   ·have H0:¬ (Value.slice pa pn pc).ownBlock=some w8.heap.size:=fun e=>by have:=(World.ownsRow.lt He.out _ e).2;have:=ht.size;omega
    have Hr:=(Since.refl w8).alloc (.cells (ZA X).toArray 51);have HP:=hid (fun (e:p=0)=>(hf e).trans Hr)
    clear hk hf;unfold fiv;go_wp2
    exact⟨_,rfl,⟨_,rfl,HeapIs.new _ _ _,H0⟩,Hr,HP.out⟩
   ·obtain rfl:p=0:=by omega
    have h3:=hf rfl;obtain⟨b1,HD,HC,H4⟩:ZW ZA 51 (fun q=>(Value.slice pa pn pc).ownBlock=some q) X (vs 16) w8:=hk.2.1
    simp only[HD];have hi:=OwnRow.keep He.out h3;have tf:=hid h3;clear hk hf h3 HD;refine Zf ZA 5 Xk (by decide) rfl _ _ 52 rfl 51 (.agg #[.int .i64 0,.int .i64 0,.int .i64 0,.slice none 0 0,.int .i32 0]) 56 Tryz.underlying52 (by kernel_rfl) rfl (Value.slice pa pn pc) _ X b1 1 _ rfl rfl hi HC (by obtain⟨za,zc,ze⟩:=Zp HE.out.1;unfold ZA;rw[ze];simp[Value.oneCell']) (by rw[Hf.out];unfold maxLen;omega) (by rw[Hf.out];omega) (Nat.zero_le _) ?_;intro v' w3 hj hZ hm;have HA:=zH (Yb ZA 5 51 w9 (Value.slice pa pn pc) (b.ins++[X]) v' w3) ⟨w8,tf.out,hZ,hm,hj⟩;have tc:=hid hZ;clear hj hZ hm hi HC H4;go_wp2
    exact⟨_,rfl,HA.out,tc.out,fun e=>absurd e (by decide)⟩
  clear aK1 HO HB Hh;have tz:=hg.out;have H1:g≠xb:=by have:=HM.out;omega
  have tu:xb≠g:=fun e=>H1 e.symm
  have ho:=ha.out.lt;have tB:=ha.out.frozen;by_cases h1:op=1
  ·subst h1;obtain⟨rfl,rfl⟩:L=2∧M=2:=⟨hd.out.1.symm,hd.out.2.symm⟩;obtain rfl:n=2:=by omega
   obtain⟨x0,x1,rfl⟩:=Zbd he.out;have c0:w5.cell? ⟨g,0,none⟩=some (.int .i64 x0):=hc.out 0 _ rfl;have c1:w5.cell? ⟨g,1,none⟩=some (.int .i64 x1):=hc.out 1 _ rfl;have w1:wrap32 x1=x1:=Y2 (hz.out x1 (by simp));have k1:=ha.out.cell 1;have k4:=ha.out.cell 4;go_wp2
   refine HJ.out ⟨1,x0,0,[],.slice none 0 0,x1⟩ ((ha.out.set 1 _).set 4 _) (((Turn.refl (fun q=>q=xb) w5).setCell (p:=⟨xb,1,none⟩) rfl _).setCell (p:=⟨xb,4,none⟩) rfl _) ?_ ?_
   ·exact⟨.nil _ _,Stays.nil _ _⟩
   ·simp[YF,FIns.d]
  ·skip
   by_cases hV:op=15
   ·subst hV;obtain⟨rfl,rfl⟩:L=3∧M=3:=⟨hd.out.1.symm,hd.out.2.symm⟩;obtain rfl:n=3:=by omega
    obtain⟨x0,x1,x2,rfl⟩:=list3 he.out;have c0:w5.cell? ⟨g,0,none⟩=some (.int .i64 x0):=hc.out 0 _ rfl;have c1:w5.cell? ⟨g,1,none⟩=some (.int .i64 x1):=hc.out 1 _ rfl;have c2:w5.cell? ⟨g,2,none⟩=some (.int .i64 x2):=hc.out 2 _ rfl;have w2:wrap32 x2=x2:=Y2 (hz.out x2 (by simp));have k1:=ha.out.cell 1;have k3:=ha.out.cell 3;have k4:=ha.out.cell 4;go_wp2
    refine HJ.out ⟨15,x0,0,[x1],.slice (some ⟨g,1,none⟩) 1 (gc-1),x2⟩ (((ha.out.set 1 _).set 3 _).set 4 _) ((((Turn.refl (fun q=>q=xb) w5).setCell (p:=⟨xb,1,none⟩) rfl _).setCell (p:=⟨xb,3,none⟩) rfl _).setCell (p:=⟨xb,4,none⟩) rfl _) ?_ ?_
    ·exact⟨Yz hc.out hg.out 1 1 (gc-1) (by simp) (by omega) (by have:=hG.out;omega),fun q hq=>by cases hq;exact⟨hv.out,hg.out⟩⟩
    ·simp[YF,FIns.d]
   ·skip
    by_cases hU:op=16
    ·subst hU;obtain⟨rfl,rfl⟩:L=3∧M=3:=⟨hd.out.1.symm,hd.out.2.symm⟩;obtain rfl:n=3:=by omega
     obtain⟨x0,x1,x2,rfl⟩:=list3 he.out;have c0:w5.cell? ⟨g,0,none⟩=some (.int .i64 x0):=hc.out 0 _ rfl;have c1:w5.cell? ⟨g,1,none⟩=some (.int .i64 x1):=hc.out 1 _ rfl;have c2:w5.cell? ⟨g,2,none⟩=some (.int .i64 x2):=hc.out 2 _ rfl;have w2:wrap32 x2=x2:=Y2 (hz.out x2 (by simp));have k3:=ha.out.cell 3;have k4:=ha.out.cell 4;go_wp2
     refine HJ.out ⟨16,0,0,[x0,x1],.slice (some ⟨g,0,none⟩) 2 gc,x2⟩ ((ha.out.set 3 _).set 4 _) (((Turn.refl (fun q=>q=xb) w5).setCell (p:=⟨xb,3,none⟩) rfl _).setCell (p:=⟨xb,4,none⟩) rfl _) ?_ ?_
     ·exact⟨Yz hc.out hg.out 0 2 gc (by simp) (by omega) hG.out,fun q hq=>by cases hq;exact⟨hv.out,hg.out⟩⟩
     ·simp[YF,FIns.d]
    ·skip
     by_cases hD:op=17
     ·subst hD;obtain⟨rfl,rfl⟩:L=2∧M=6:=⟨hd.out.1.symm,hd.out.2.symm⟩;obtain⟨x0,x1,nt,rfl⟩:∃ x0 x1 nt,ns=x0::x1::nt:=ZgU (by rw[he.out];omega)
      have c0:w5.cell? ⟨g,0,none⟩=some (.int .i64 x0):=hc.out 0 _ rfl;have c1:w5.cell? ⟨g,1,none⟩=some (.int .i64 x1):=hc.out 1 _ rfl;have w1:wrap32 x1=x1:=Y2 (hz.out x1 (by simp));have k1:=ha.out.cell 1;have k4:=ha.out.cell 4;have k3:=ha.out.cell 3;go_wp2
      ·obtain rfl:n=2:=by omega
       obtain rfl:nt=[]:=List.eq_nil_of_length_eq_zero (by have:=he.out;simp at this;simpa using this);refine HJ.out ⟨17,x0,0,[],.slice (some ⟨g,0,none⟩) 0 0,x1⟩ (((ha.out.set 1 _).set 4 _).set 3 _) ((((Turn.refl (fun q=>q=xb) w5).setCell (p:=⟨xb,1,none⟩) rfl _).setCell (p:=⟨xb,4,none⟩) rfl _).setCell (p:=⟨xb,3,none⟩) rfl _) ?_ ?_
       ·exact⟨.inl ⟨_,rfl,rfl⟩,fun q hq=>by cases hq;exact⟨hv.out,hg.out⟩⟩
       ·simp[YF,FIns.d]
      ·refine HJ.out ⟨17,x0,0,nt,.slice (some ⟨g,2,none⟩) (n-2) (gc-2),x1⟩ (((ha.out.set 1 _).set 4 _).set 3 _) ((((Turn.refl (fun q=>q=xb) w5).setCell (p:=⟨xb,1,none⟩) rfl _).setCell (p:=⟨xb,4,none⟩) rfl _).setCell (p:=⟨xb,3,none⟩) rfl _) ?_ ?_
       ·exact⟨X4 hc.out hg.out 2 (n-2) (gc-2) (by rw[he.out];omega) (by rw[he.out]) (by omega) (by have:=hG.out;omega),fun q hq=>by cases hq;exact⟨hv.out,hg.out⟩⟩
       ·simp[YF,FIns.d]
     ·skip
      by_cases hC:op=18
      ·subst hC;obtain⟨rfl,rfl⟩:L=4∧M=4:=⟨hd.out.1.symm,hd.out.2.symm⟩;obtain rfl:n=4:=by omega
       obtain⟨x0,x1,x2,x3,rfl⟩:=Zhe he.out;have c0:w5.cell? ⟨g,0,none⟩=some (.int .i64 x0):=hc.out 0 _ rfl;have c1:w5.cell? ⟨g,1,none⟩=some (.int .i64 x1):=hc.out 1 _ rfl;have c2:w5.cell? ⟨g,2,none⟩=some (.int .i64 x2):=hc.out 2 _ rfl;have c3:w5.cell? ⟨g,3,none⟩=some (.int .i64 x3):=hc.out 3 _ rfl;have k1:=ha.out.cell 1;have k2:=ha.out.cell 2;have k3:=ha.out.cell 3;go_wp2
       refine HJ.out ⟨18,x0,x1,[x2,x3],.slice (some ⟨g,2,none⟩) 2 (gc-2),0⟩ (((ha.out.set 1 _).set 2 _).set 3 _) ((((Turn.refl (fun q=>q=xb) w5).setCell (p:=⟨xb,1,none⟩) rfl _).setCell (p:=⟨xb,2,none⟩) rfl _).setCell (p:=⟨xb,3,none⟩) rfl _) ?_ ?_
       ·exact⟨Yz hc.out hg.out 2 2 (gc-2) (by simp) (by omega) (by have:=hG.out;omega),fun q hq=>by cases hq;exact⟨hv.out,hg.out⟩⟩
       ·simp[YF,FIns.d]
      ·skip
       obtain⟨rfl,rfl⟩:L=3∧M=3:=by have h:=hd.out;simp only[least,most,if_neg h1,if_neg hD,if_neg hC]at h;exact⟨h.1.symm,h.2.symm⟩
       have q1:(op==1)=false:=by simpa using h1
       have q15:(op==15)=false:=by simpa using hV
       have q16:(op==16)=false:=by simpa using hU
       have q17:(op==17)=false:=by simpa using hD
       have q18:(op==18)=false:=by simpa using hC
       have HV:=hid (And.intro h1 (And.intro hV (And.intro hU (And.intro hD hC))));clear h1 hV hU hD hC;obtain rfl:n=3:=by omega
       obtain⟨x0,x1,x2,rfl⟩:=list3 he.out;have c0:w5.cell? ⟨g,0,none⟩=some (.int .i64 x0):=hc.out 0 _ rfl;have c1:w5.cell? ⟨g,1,none⟩=some (.int .i64 x1):=hc.out 1 _ rfl;have c2:w5.cell? ⟨g,2,none⟩=some (.int .i64 x2):=hc.out 2 _ rfl;have k1:=ha.out.cell 1;have k3:=ha.out.cell 3;go_wp2
       refine HJ.out ⟨op,x0,0,[x1,x2],.slice (some ⟨g,1,none⟩) 2 (gc-1),0⟩ ((ha.out.set 1 _).set 3 _) (((Turn.refl (fun q=>q=xb) w5).setCell (p:=⟨xb,1,none⟩) rfl _).setCell (p:=⟨xb,3,none⟩) rfl _) ?_ ?_
       ·exact⟨Yz hc.out hg.out 1 2 (gc-1) (by simp) (by omega) (by have:=hG.out;omega),fun q hq=>by cases hq;exact⟨hv.out,hg.out⟩⟩
       ·have:=HV.out;simp[YF,FIns.d,this]
end
end Go.Proofs.YtmhojfpidedjeaaGreatDoor
