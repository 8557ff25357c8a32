import Derived.Test.YtmhojfpidedjeaaGreatDoorTp16
namespace Go.Proofs.YtmhojfpidedjeaaGreatDoor
open Go.RowKit Go.Lib
set_option linter.unusedVariables false
set_option maxHeartbeats 4000000
set_option maxRecDepth 100000
attribute [local simp] J5 JC KL J1
def InsTQ (w0:World) (pb:Nat) (tv:Value) (params pl:Int) (bv:Value) (bl:List FBlk) (op:Int) (l:List ByteArray) (w:World) (x:Ending) (w':World):Prop:=
 x=.returned (.tuple #[])∧∃ e' bl',TPa w0 pb tv params pl e' bv bl' w'∧Turn (PaOwn pb bv bl) w w'∧JI (YZ ⟨params,bl.map FBlk.d,pl⟩ op l) e' params bl'
theorem ZcT {x : Bool} (h:x=false):Yj 0 (!x) 70=70:=by subst h;rfl
theorem ZcS {x : Bool} (h:x=true):Yj 0 (!x) 70=0:=by subst h;rfl
theorem ZbP (w:World) (o:Obj) (cs:Array Value) (T:TypeId):HeapIs ((w.alloc o).alloc (.cells cs T)) (w.heap.size+1) cs T:=by have h:=HeapIs.new (w.alloc o) cs T;have e:(w.alloc o).heap.size=w.heap.size+1:=(by simp);rw[e]at h;exact h
structure Zbh (xb:Nat) (w6:World) (cs:Array Value) (w8:World):Prop where
 t:Turn (fun q=>q=xb) w6 w8
 b:HeapIs w8 xb cs 51
def JG:List MapEntry:=[{ key:=.int .i64 1,val:=.agg #[.int .i64 2,.int .i64 2],born:=0 },{ key:=.int .i64 17,val:=.agg #[.int .i64 2,.int .i64 6],born:=1 },{ key:=.int .i64 18,val:=.agg #[.int .i64 4,.int .i64 4],born:=2 }]
theorem Zcu (op:Int):∃ (L0 M0:Int) (kn:Bool),(XW op JG).getD (.agg #[.int .i64 0,.int .i64 0])=.agg #[.int .i64 L0,.int .i64 M0]∧(XW op JG).isSome=kn∧(kn=true∧L0=(least op:Int)∧M0=(most op:Int)∨kn=false∧least op=3∧most op=3):=by
 unfold JG;simp only[ZaU,ZbL];by_cases h1:op=1
 ·subst h1;exact⟨2,2,true,rfl,rfl,.inl ⟨rfl,rfl,rfl⟩⟩
 ·by_cases hb:op=17
  ·subst hb;exact⟨2,6,true,rfl,rfl,.inl ⟨rfl,rfl,rfl⟩⟩
  ·by_cases ha:op=18
   ·subst ha;exact⟨4,4,true,rfl,rfl,.inl ⟨rfl,rfl,rfl⟩⟩
   ·have q1:(op==1)=false:=by simpa using h1
    have q17:(op==17)=false:=by simpa using hb
    have q18:(op==18)=false:=by simpa using ha
    rw[q1,q17,q18];exact⟨0,0,false,rfl,rfl,.inr ⟨rfl,by unfold least;simp[h1,hb,ha],by unfold most;simp[h1,hb,ha]⟩⟩
section
variable {w0:World} {pb:Nat} {tv:Value} {params pl:Int} {bv:Value} {bl:List FBlk}
theorem Zgl (w:World) (h:TPa w0 pb tv params pl 0 bv bl w) (hL:Ys w0) (op:Int) (H1:1≤op∧op≤18) (v:Value) (l:List ByteArray) (hl:StrsIn w v l) (Hf:Stays (PaOwn pb bv bl) w v) (hn:l.length≤400000) (b:FBlk) (hb:bl[bl.length-1]? = some b) (tN:bl.length≤1000000) (tM:b.ins.length≤1000000):Calls Tryz.prog 79 #[.pointer (some ⟨pb,0,none⟩),.int .i64 op,v] w (InsTQ w0 pb tv params pl bv bl op l w):=by
 obtain⟨a,c,e1,_⟩:=RowIn.shape hl;obtain⟨n,Hh⟩:∃ n,l.length=n:=⟨_,rfl⟩
 rw[Hh]at e1;subst e1;have hR:=@run_makeMap Tryz.prog;have He:=@Vs Tryz.prog _ _ _ Tryz.underlying167 Tryz.underlying3;have tH:=@Qm Tryz.prog _ _ _ Tryz.underlying167 Tryz.underlying3 _ Zat;obtain⟨L0,M0,kn,H3,H2,hJ⟩:=Zcu op;unfold JG at H3 H2;have ti:=hid hJ;have H:=hid h;have tw:=hid hL;have HL:=hid (fun (S:Nat→Prop) w' (hS:∀ q,S q→PaOwn pb bv bl q∨w.heap.size≤q) (t:Turn S w w')=>(RowIn.turn hl t (fun q hq hr=>by rcases hS q hr with h1 | h1;exact (Hf q hq).1 h1;have:=(Hf q hq).2;omega) (fun _ _ h=>h):StrsIn w' _ l))
 have tT:=hid Hf;have HB:=hid hb;have Hn:=hid Hh;rw[Hh]at hn;have Th:=hid H1;clear h hl Hf hb Hh H1 hJ hL;go_enter Tryz.func79,Tryz.ntmps79
 go_upto_region 2 with (fail)
 rename_i K1 aK1 K2 aK2
 have Ha:=hid aK1;have h8:=hid aK2;clear aK1 aK2 hR He tH H3 H2;obtain⟨L,hL⟩:∃ L,least op=L:=⟨_,rfl⟩
 obtain⟨M,hM⟩:∃ M,most op=M:=⟨_,rfl⟩
 have Te:2≤L∧L≤4∧M≤6:=by
  rw[←hL,←hM];exact JZ op
 have hJ:=ti.out;rw[hL,hM]at hJ;have hh:=hid (And.intro hL hM);clear ti hL hM;have t2:Hid (∀ {u3 u4 u5 u6 u8 u9 u10 u11 u12 u13 u14 u15 u16 u17 u18 u19 u20 u21 u22 u23 u24 u25 u26 u27 u28 u29 u30 u31 u32 u33 u34 u35 u36 u37 u38 u39 u40 u41 u42 u43 u44 u45 u46 u47 u48 u49 u50 u51 u52 u53 u54 u55 u56 u57 u58 u59 u60 u61 u62 u63 u64 u65 u66 u67 u68 u69 u70 u71 u72 u73 u74 u75 u76 u77 u78 u79 u80 u81 u82 u83 u84 u85 u86 u87 u88 u89 u90 u91 u92 u93 u94 u95 u96 u97 u98 u99 u100 u101 u102 u103 u104 u105 u106 u107 u108 u109 u110 u111 u112 u113 u114:Value} {w5:World},Since w w5→HeapIs w5 (w.heap.size+1) #[.int .i64 L,.int .i64 M] 33→K1 ⟨(Value.pointer (some ⟨pb,0,none⟩)::Value.int .i64 op::Value.slice a n c::u3::u4::u5::u6::Value.pointer (some ⟨(w.heap.size+1),0,none⟩)::u8::u9::u10::u11::u12::u13::u14::u15::u16::u17::u18::u19::u20::u21::u22::u23::u24::u25::u26::u27::u28::u29::u30::u31::u32::u33::u34::u35::u36::u37::u38::u39::u40::u41::u42::u43::u44::u45::u46::u47::u48::u49::u50::u51::u52::u53::u54::u55::u56::u57::u58::u59::u60::u61::u62::u63::u64::u65::u66::u67::u68::u69::u70::u71::u72::u73::u74::u75::u76::u77::u78::u79::u80::u81::u82::u83::u84::u85::u86::u87::u88::u89::u90::u91::u92::u93::u94::u95::u96::u97::u98::u99::u100::u101::u102::u103::u104::u105::u106::u107::u108::u109::u110::u111::u112::u113::u114::[]).toArray,[]⟩ w5):=by
  clear hJ;apply hid
  intro u3 u4 u5 u6 u8 u9 u10 u11 u12 u13 u14 u15 u16 u17 u18 u19 u20 u21 u22 u23 u24 u25 u26 u27 u28 u29 u30 u31 u32 u33 u34 u35 u36 u37 u38 u39 u40 u41 u42 u43 u44 u45 u46 u47 u48 u49 u50 u51 u52 u53 u54 u55 u56 u57 u58 u59 u60 u61 u62 u63 u64 u65 u66 u67 u68 u69 u70 u71 u72 u73 u74 u75 u76 u77 u78 u79 u80 u81 u82 u83 u84 u85 u86 u87 u88 u89 u90 u91 u92 u93 u94 u95 u96 u97 u98 u99 u100 u101 u102 u103 u104 u105 u106 u107 u108 u109 u110 u111 u112 u113 u114 w5 Hq Hi;refine Ha.out _ _ ?_;have d0:w5.cell? ⟨w.heap.size+1,0,none⟩=some (.int .i64 L):=Hi.cell 0;have d1:w5.cell? ⟨w.heap.size+1,1,none⟩=some (.int .i64 M):=Hi.cell 1;have dl:=Hi.lt;have HK:=hid (H.out.keep Hq);have te:=hid Hq;clear Hq Hi Ha h8;by_cases h7:n<L∨M<n
  ·have tx:=hid (show YZ ⟨params,bl.map FBlk.d,pl⟩ op l=.error 70 from by
    unfold YZ;rw[if_neg];rw[hh.out.1,hh.out.2,Hn.out];omega)
   have Hy:∀ w',TPa w0 pb tv params pl 70 bv bl w'→Turn (fun q=>q=pb) w5 w'→InsTQ w0 pb tv params pl bv bl op l w (.returned (.tuple #[])) w':=fun w' h1 h2=>⟨rfl,70,bl,h1,((Turn.since (S:=fun q=>q=pb) te.out).trans h2).mono (fun q _ hq=>.inl hq),by rw[tx.out];exact⟨rfl,by decide⟩⟩
   have HM:=hid Hy;clear Hy;by_cases tp:n<L
   ·clear h7;go_wp2_with fail
    refine (Zw w5 HK.out _ 70 (by decide)).mono ?_;rintro e1 w1 ⟨rfl,hp,ht⟩;have HF:=hid (HM.out w1 hp ht);clear hp ht;go_wp2
    go_end0
    exact HF.out
   ·have hi:M<n:=by omega
    have Ta:L≤n:=by omega
    clear h7 tp;go_wp2_with fail
    refine (Zw w5 HK.out _ 70 (by decide)).mono ?_;rintro e1 w1 ⟨rfl,hp,ht⟩;rw[ZcT (by first | rfl | (simp;omega))]at hp ⊢;have HF:=hid (HM.out w1 hp ht);clear hp ht;go_wp2
    go_end0
    exact HF.out
  ·have hO:L≤n∧n≤M:=by omega
   have Tc:=hO.1;have Tb:=hO.2;clear h7;go_wp2_with fail
   refine (Zw w5 HK.out _ 70 (by decide)).mono ?_;rintro e1 w1 ⟨rfl,hp,ht⟩;rw[ZcS (by first | rfl | (simp;omega))]at hp ⊢;have HP:=hid hp;have HT:=hid ((Turn.since (S:=fun q=>q=pb) te.out).trans ht);clear hp ht d0 d1 dl;go_wp2_with fail
   have HY:Stays (fun q=>q=pb) w1 (.slice a n c):=tT.out.mono (fun q hq=>.inl (.inl hq)) HT.out.size
   refine (Wj w1 HP.out tw.out _ l (HL.out _ w1 (fun q hq=>.inl (.inl hq)) HT.out) HY (by rw[Hn.out];omega)).mono ?_
   rintro e4 w4 ⟨rv,rfl,hB,H0,HV⟩;obtain⟨ns,Hg⟩:∃ ns,numsW l=ns:=⟨_,rfl⟩
   have hN:ns.length=n:=by rw[←Hg,←Hn.out];unfold numsW;simp
   rw[Hg,hN]at hB;obtain⟨g,gc,rfl,t9,H5,H6,tI,_,Hx⟩:=YT hB (by omega);obtain⟨x0,nt0,Hv⟩:∃ x0 nt0,ns=x0::nt0:=by
    match ns,hN with
    | x0::nt0,_=>exact⟨x0,nt0,rfl⟩
    | [],h=>exact absurd h (by simp;omega)
   have tC:w4.cell? ⟨g,0,none⟩=some (.int .i64 x0):=Hx 0 _ (by rw[Hv];rfl);have hv:=hid Hv;have tf:=hid Hg;have hu:=hid hN;have t3:=hid Hx;have t0:=hid H0;have td:=hid (HT.out.trans HV);have h3:=hid H5;have HG:=hid (And.intro H6 tI);have tP:=zH (w.heap.size≤g) (by have:=HT.out.size;omega);clear hB H0 HV Hg hN Hx HY H6 H5 Hv;go_upto_region 9 with (fail)
   obtain⟨xb,Hb⟩:∃ xb,w4.heap.size=xb:=⟨_,rfl⟩
   have h5:HeapIs (w4.alloc (.cells #[.int .i64 op,.int .i64 x0,.int .i64 0,.slice none 0 0,.int .i32 0] 51)) xb #[.int .i64 op,.int .i64 x0,.int .i64 0,.slice none 0 0,.int .i32 0] 51:=by rw[←Hb];exact HeapIs.new _ _ _
   have tj:=zH (g<xb) (by have:=HG.out.2;omega);have HQ:=zH (w.heap.size≤xb) (by rw[←Hb];exact td.out.size);have tX:=zH (pb<xb) (by have:=H.out.box.lt;have:=HQ.out;omega);obtain⟨w6,Hc⟩:∃ w6,w4.alloc (.cells #[.int .i64 op,.int .i64 x0,.int .i64 0,.slice none 0 0,.int .i32 0] 51)=w6:=⟨_,rfl⟩
   have hQ:Since w4 w6:=by rw[←Hc];exact (Since.refl _).alloc _
   rw[Hc]at h5;rw[Hb,Hc];have hj:=hid h5;have tR:=hid (td.out.later (Turn.since (S:=fun q=>q=pb) hQ) (fun q hq=>.inl hq));have t6:=hid (t0.out.box.keep hQ);have HO:Hid (YZ ⟨params,bl.map FBlk.d,pl⟩ op l=if ZZ l then .ok ⟨params,onLast ⟨params,bl.map FBlk.d,pl⟩ (fun b=>⟨b.phis,b.ins++[YF op (numsW l)],b.term⟩),3⟩ else .error 71):=hid (by
    unfold YZ;rw[if_pos];rw[hh.out.1,hh.out.2,Hn.out];exact hO)
   have hf:=hid (fun (j:Nat) (x:Value) (h:(ns.map (Value.int .i64))[j]? = some x)=>((hQ.cell (p:=⟨g,j,none⟩) HG.out.2).trans (t3.out j x h):w6.cell? ⟨g,j,none⟩=some x))
   have hP:=zH (∀ y∈ns,In32W y) (fun y hy=>by rw[←tf.out]at hy;unfold numsW at hy;obtain⟨z,_,rfl⟩:=List.mem_map.1 hy;exact YH z);have hK:=zH (¬ (PaS w0 pb bv bl g∨g=xb)) (fun h=>by rcases h with h | h;have:=H.out.ltS g h;have:=tP.out;omega;have:=tj.out;omega);have hx:=zH (g<w6.heap.size) (Nat.lt_of_lt_of_le HG.out.2 hQ.size);clear h5 Hb hQ Hc tC
   rename_i K3 aK3 K4 aK4
   have tl:=hid aK3;have HJ:Hid (∀ {u1 u2 u3 u4 u5 u6 u7 u8 u9 u11 u12 u13 u14 u15 u16 u17 u18 u19 u20 u21 u22 u23 u24 u25 u26 u27 u28 u29 u30 u31 u32 u33 u34 u35 u36 u37 u38 u39 u40 u41 u42 u43 u44 u45 u46 u47 u48 u49 u50 u51 u52 u53 u54 u55 u56 u57 u58 u59 u60 u61 u62 u63 u64 u65 u66 u67 u68 u69 u70 u71 u72 u73 u74 u75 u76 u77 u78 u79 u80 u81 u82 u83 u84 u85 u86 u87 u88 u89 u90 u91 u92 u93 u94 u95 u96 u97 u98 u99 u100 u101 u102 u103 u104 u105 u106 u107 u108 u109 u110 u111 u112 u113 u114:Value} {w9:World} (X:FIns),HeapIs w9 xb (ZA X).toArray 51→Turn (fun q=>q=xb) w6 w9→WK (fun q=>PaS w0 pb bv bl q∨q=xb) w6 X→FIns.d X=YF op ns→K3 ⟨(Value.pointer (some ⟨pb,0,none⟩)::u1::u2::u3::u4::u5::u6::u7::u8::u9::Value.pointer (some ⟨xb,0,none⟩)::u11::u12::u13::u14::u15::u16::u17::u18::u19::u20::u21::u22::u23::u24::u25::u26::u27::u28::u29::u30::u31::u32::u33::u34::u35::u36::u37::u38::u39::u40::u41::u42::u43::u44::u45::u46::u47::u48::u49::u50::u51::u52::u53::u54::u55::u56::u57::u58::u59::u60::u61::u62::u63::u64::u65::u66::u67::u68::u69::u70::u71::u72::u73::u74::u75::u76::u77::u78::u79::u80::u81::u82::u83::u84::u85::u86::u87::u88::u89::u90::u91::u92::u93::u94::u95::u96::u97::u98::u99::u100::u101::u102::u103::u104::u105::u106::u107::u108::u109::u110::u111::u112::u113::u114::[]).toArray,[]⟩ w9):=by
    clear aK3 aK4;apply hid
    intro u1 u2 u3 u4 u5 u6 u7 u8 u9 u11 u12 u13 u14 u15 u16 u17 u18 u19 u20 u21 u22 u23 u24 u25 u26 u27 u28 u29 u30 u31 u32 u33 u34 u35 u36 u37 u38 u39 u40 u41 u42 u43 u44 u45 u46 u47 u48 u49 u50 u51 u52 u53 u54 u55 u56 u57 u58 u59 u60 u61 u62 u63 u64 u65 u66 u67 u68 u69 u70 u71 u72 u73 u74 u75 u76 u77 u78 u79 u80 u81 u82 u83 u84 u85 u86 u87 u88 u89 u90 u91 u92 u93 u94 u95 u96 u97 u98 u99 u100 u101 u102 u103 u104 u105 u106 u107 u108 u109 u110 u111 u112 u113 u114 w9 Y hD ht hz hH;refine tl.out _ _ ?_;obtain⟨op1,dst1,two1,ar1,av1,imm1⟩:=Y;obtain⟨ya,yc,HR⟩:=Zp hz.1;obtain⟨yk,HS⟩:∃ k,ar1.length=k:=⟨_,rfl⟩
    obtain rfl:av1=.slice ya yk yc:=HR.trans (by rw[HS]);have Hz:=Zfo hz.1;have k3:w9.cell? ⟨xb,3,none⟩=some (.slice ya yk yc):=hD.cell 3;have tA:=hD.lt;have tB:=hD.frozen;have tc:=hid hD;have hd:=hid ht;have HE:=zH (WK (fun q=>PaS w0 pb bv bl q∨q=xb) w6 ⟨op1,dst1,two1,ar1,.slice ya yk yk,imm1⟩) ⟨Zen hz.1,KA hz.2⟩;have Hl:=zH (FIns.d ⟨op1,dst1,two1,ar1,.slice ya yk yk,imm1⟩=YF op ns) hH;have HN:=hid Hz;clear hD ht hz hH HR HS Hz;go_wp2_with fail
    refine (Zfw ya yk yc w9 HN.out.1 HN.out.2).mono ?_;rintro e10 w10 ⟨rfl,tm⟩;obtain rfl:w9=w10:=tm.symm;go_upto_region 20 with (fail)
    obtain⟨X,hX⟩:∃ X:FIns,X=⟨op1,dst1,two1,ar1,.slice ya yk yk,imm1⟩:=⟨_,rfl⟩
    have hD:HeapIs (w9.setCell ⟨xb,3,none⟩ (.slice ya yk yk)) xb (ZA X).toArray 51:=by rw[hX];exact tc.out.set 3 _
    have ht:Turn (fun q=>q=xb) w6 (w9.setCell ⟨xb,3,none⟩ (.slice ya yk yk)):=hd.out.setCell (p:=⟨xb,3,none⟩) rfl _;have hz:=HE.out;have hH:=Hl.out;rw[←hX]at hz hH;have Tf:=hid hX;clear k3 tA tB hX tc hd HE Hl;generalize w9.setCell ⟨xb,3,none⟩ (.slice ya yk yk)=w9 at *;have Ho:=tR.out.later ht (fun q hq=>.inr (by subst hq;exact HQ.out))
    have hA:=H.out.reBox Ho (t6.out.turn ht (fun e=>by have:=tX.out;omega));have tQ:=hid Ho;have tZ:=hid hA;have tO:=hid hD;have ta:=hid (hz.turn ht (S':=PaS w0 pb bv bl) (fun q hq=>.inr hq) (fun q hq=>.inl (.inl hq)))
    have Hl:=hid hH;have h4:=hid (hA.last b HB.out);have Ht:0<bl.length:=by
     rcases Nat.eq_zero_or_pos bl.length with h0|h0
     ·have:=(List.getElem?_eq_some_iff.1 HB.out).1;omega
     ·exact h0
    obtain⟨bb,bc,H7,tK,tq,_,HC,tr,hU⟩:=YT hA.row Ht;obtain⟨mm,hR⟩:∃ mm,bl.length=mm+1:=⟨bl.length-1,by omega⟩
    rw[hR]at H7 tN tK;subst H7;have Hw:bl.length-1=mm:=by omega
    obtain⟨pa,pc,hI⟩:=Ze h4.out.ins;obtain⟨pn,Hu⟩:∃ pn,b.ins.length=pn:=⟨_,rfl⟩
    rw[Hu]at hI tM;have c1:w9.cell? ⟨pb,1,none⟩=some (.slice (some ⟨bb,0,none⟩) (mm+1) bc):=hA.cell 1;have c2:w9.cell? ⟨bb,mm*6+1,none⟩=some (.slice pa pn pc):=by
     rw[←hI];refine hU (mm*6+1) b.inv ?_;have h9:=YP fbcells 6 Zs bl mm 1 b (by rw[←Hw];exact HB.out) (by decide);exact h9
    obtain⟨cur,HD⟩:=Xz hA.row (q:=bb) rfl;have t5:=zH (HeapIs w9 bb cur 57) HD;have HH:=zH (OwnRow ZA 5 51 0 w9 (.slice pa pn pc) b.ins) (by rw[←hI];exact h4.out.ins);have HZ:pb<w9.heap.size:=hA.box.lt;have t4:=hid c1;have tk:=hid c2;have th:=hid Hw;have Hm:=hid hI;have HI:=hid Hu;have t1:=hid hR;have hZ:=zH (pb<w9.heap.size∧bb<w9.heap.size) ⟨HZ,HC⟩;have hY:=hid (show ¬ (Value.slice pa pn pc).ownBlock=some pb∧¬ (Value.slice pa pn pc).ownBlock=some bb∧¬ (Value.slice pa pn pc).ownBlock=some xb from by
     rw[←hI];exact⟨Zk h4.out.ins hA.box (by decide),fun e=>Z9 h4.out.ins hA.row (by decide) bb e rfl,fun e=>by have:=H.out.lt xb (.inr (.inr ⟨b,HB.out,.inr e⟩));have:=HQ.out;omega⟩)
    clear hA Ht HC tr hU Hw hI Hu hR tq c2 HD hD ht hz hH Ho c1 HZ;refine Z4 10 9 [9] [0,0,0,0,0,0,0,0,0,0] [0,0,0,0,0,0,0,0,0,0] [0,0,0,0,0,0,0,0,0,1] (fun q=>(Value.slice pa pn pc).ownBlock=some q) (fun p w8=>p=0→Since w9 w8) rfl (by decide +kernel) (by decide +kernel) (by decide +kernel) (by decide) (by decide +kernel)
     [Is (.pointer (some ⟨pb,0,none⟩)),Is (.pointer (some ⟨bb,mm*6,none⟩)),Is (.pointer (some ⟨pb,0,none⟩)),Is (.pointer (some ⟨bb,mm*6,none⟩)),Is (.pointer (some ⟨bb,mm*6,none⟩)),Is (.pointer (some ⟨bb,mm*6+1,none⟩)),Is (Value.slice pa pn pc),Is (fiv X),ZW ZA 51 (fun q=>(Value.slice pa pn pc).ownBlock=some q) X,Yb ZA 5 51 w9 (Value.slice pa pn pc) (b.ins++[X])]
     (by repeat (first | exact trivial | refine⟨fun h=>absurd rfl h,?_⟩ | refine⟨fun _=>Is.stableT _ _,?_⟩ | refine⟨fun _=>Any.stableT _,?_⟩ | refine⟨fun _=>ZW.stableT _ _ _ _,?_⟩)) (by repeat (first | exact trivial | refine⟨Is.stable _,?_⟩ | refine⟨Any.stable,?_⟩ | refine⟨ZW.stable _ _ _ _,?_⟩ | refine⟨Yb.stable _ _ _ _ _ _,?_⟩)) (fun _=>(Since.refl w9).drew) ⟨?_,?_,?_,?_,?_,?_,?_,?_,?_,?_,trivial⟩ ?_
    rotate_right
    ·intro vs w8 ht ha hk;simp only[List.take,List.drop,putAll,Act.put,Zc,Zd,Is,List.setIfInBounds_toArray,List.set_cons_zero,List.set_cons_succ,Nat.reduceAdd]at hk ⊢;try simp only[hk]
     obtain⟨wa,HW,HU,hF,hC⟩:Yb ZA 5 51 w9 (Value.slice pa pn pc) (b.ins++[X]) (vs 9) w8:=by exact hk.2.2.2.2.2.2.2.2.2.1
     generalize vs 9=nw at *;obtain⟨ja,jc,H4⟩:=Ze hC;rw[List.length_append,HI.out]at H4;subst H4;have h6:=t5.out.turn ht hY.out.2.1;have ho:=h6.lt;have hs:=h6.frozen;have k1:w8.cell? ⟨bb,mm*6+1,none⟩=some (Value.slice pa pn pc):=(ht.cell hZ.out.2 hY.out.2.1).trans tk.out;have ts:=hid hC;have hd:=hid ht;have Tg:=hid HU;have tU:=hid HW;have tu:=hid hF;clear hk ha ht HW HU hF h6 hC;go_wp2
     go_end0
     have hG:=h4.out;have tn:=Zi hG.phis hd.out (fun q hq hr=>Z9 hG.phis hG.ins (by decide) q hq (by rw[Hm.out];exact hr))
     have tE:ZP w9 b.inv (.slice ja (pn+1) jc):=fun q hq=>by
      rcases tu.out q hq with h1|h1
      ·exact .inl (by rw[Hm.out];exact h1)
      ·have:=tU.out.size;exact .inr (by omega)
     have He:=PaM.upd tZ.out (b':={ b with ins:=b.ins++[X],inv:=.slice ja (pn+1) jc }) HB.out (bb:=bb) (cap:=bc) (by rw[t1.out]) (w1:=w8) (hd.out.mono (fun q _ hq=>.inr (by rw[Hm.out];exact hq))) 1 (by decide) (.slice ja (pn+1) jc) rfl tn ts.out (fun q hq=>.inl hq) tE hG.phi (fun p hp=>by rcases List.mem_append.1 hp with h1 | h1;exact hG.inx p h1;rw[List.mem_singleton.1 h1];exact ta.out) hG.term
     rw[th.out]at He;refine⟨rfl,numsE 0 l,_,He,?_,?_⟩
     ·refine ((tQ.out.mono fun q _ hq=>.inl hq:Turn (PaOwn pb _ bl) w w9).trans (hd.out.mono fun q _ hq=>.inr (.inr ⟨b,HB.out,.inr (by rw[Hm.out];exact hq)⟩))).setCell ?_ _
      exact .inr (.inl rfl)
     ·rw[HO.out];unfold numsE
      cases t8:ZZ l
      ·exact⟨rfl,by decide⟩
      ·refine⟨rfl,rfl,?_⟩;have:=WP (b':={ b with ins:=b.ins++[X],inv:=.slice ja (pn+1) jc }) HB.out ⟨params,bl.map FBlk.d,pl⟩ rfl (fun b=>⟨b.phis,b.ins++[YF op (numsW l)],b.term⟩) (by rw[tf.out,←Hl.out];simp[FBlk.d]);rw[th.out]at this;exact this
    all_goals
     intro p vs w8 hm hi ht ha hk;simp only[List.take,putAll,Act.put,Zh,Zd,Is,List.setIfInBounds_toArray,List.set_cons_zero,List.set_cons_succ,Nat.reduceAdd]at hk ⊢;try simp only[hk]
    iterate 2
     ·go_wp2
      exact⟨_,rfl,rfl,Since.refl _,ha⟩
     ·have k1:w8.cell? ⟨pb,1,none⟩=some (.slice (some ⟨bb,0,none⟩) (mm+1) bc):=(ht.cell hZ.out.1 hY.out.1).trans t4.out;have k2:pb<w8.heap.size:=Nat.lt_of_lt_of_le hZ.out.1 ht.size;clear hk;go_wp2_with fail
      refine (K0 w8 k1 k2 (by omega)).mono ?_;rintro e3 w3 ⟨rfl,Hr⟩;have tY:=hid (fun (e:p=0)=>(ha e).trans Hr)
      have tV:=hid Hr;clear ha Hr k1;go_wp2
      exact⟨_,rfl,rfl,tV.out,tY.out⟩
    iterate 2
     ·go_wp2
      exact⟨_,rfl,rfl,Since.refl _,ha⟩
    ·have k1:w8.cell? ⟨bb,mm*6+1,none⟩=some (Value.slice pa pn pc):=(ht.cell hZ.out.2 hY.out.2.1).trans tk.out;have k2:bb<w8.heap.size:=Nat.lt_of_lt_of_le hZ.out.2 ht.size;go_wp2
     exact⟨_,rfl,rfl,Since.refl _,ha⟩
    ·have tJ:=tO.out.turn ht hY.out.2.2;clear hk;refine wpList_load_row rfl _ _ rfl xb rfl 51 _ (0,0) _ tJ Tryz.underlying51 rfl (by kernel_rfl) ?_;go_wp2
     exact⟨_,rfl,rfl,Since.refl _,ha⟩
    ·have tF:¬ (Value.slice pa pn pc).ownBlock=some w8.heap.size:=fun e=>by have:=(World.ownsRow.lt HH.out _ e).2;have:=ht.size;omega
     have HX:=(Since.refl w8).alloc (.cells (ZA X).toArray 51);have HP:=hid (fun (e:p=0)=>(ha e).trans HX)
     clear hk ha;unfold fiv;go_wp2
     exact⟨_,rfl,⟨_,rfl,HeapIs.new _ _ _,tF⟩,HX,HP.out⟩
    ·obtain rfl:p=0:=by omega
     have Hs:=ha rfl;obtain⟨b1,H9,H8,tL⟩:ZW ZA 51 (fun q=>(Value.slice pa pn pc).ownBlock=some q) X (vs 8) w8:=hk.2.1
     simp only[H9];have hB:=OwnRow.keep HH.out Hs;have tW:=hid Hs;clear hk ha Hs H9;refine Zf ZA 5 Xk (by decide) rfl _ _ 52 rfl 51 (.agg #[.int .i64 0,.int .i64 0,.int .i64 0,.slice none 0 0,.int .i32 0]) 56 Tryz.underlying52 (by kernel_rfl) rfl (Value.slice pa pn pc) _ X b1 1 _ rfl rfl hB H8 (by obtain⟨za,zc,ze⟩:=Zp ta.out.1;unfold ZA;rw[ze];simp[Value.oneCell']) (by rw[HI.out];unfold maxLen;omega) (by rw[HI.out];omega) (Nat.zero_le _) ?_;intro v' w3 hC Hp hF;have HA:=zH (Yb ZA 5 51 w9 (Value.slice pa pn pc) (b.ins++[X]) v' w3) ⟨w8,tW.out,Hp,hF,hC⟩;have tS:=hid Hp;clear hC Hp hF hB H8 tL;go_wp2
     exact⟨_,rfl,HA.out,tS.out,fun e=>absurd e (by decide)⟩
   clear aK3 tl HB HO;have hE:=hx.out;have hT:g≠xb:=by have:=tj.out;omega
   have t7:xb≠g:=fun e=>hT e.symm
   have hG:=hj.out.lt;have Td:=hj.out.frozen;by_cases h1:op=1
   ·subst h1;obtain⟨rfl,rfl⟩:L=2∧M=2:=⟨hh.out.1.symm,hh.out.2.symm⟩;obtain rfl:n=2:=by omega
    obtain⟨x1,rfl⟩:=JA (show nt0.length=1 from by have:=hu.out;rw[hv.out]at this;simpa using this);obtain rfl:=hv.out;have c1:w6.cell? ⟨g,1,none⟩=some (.int .i64 x1):=hf.out 1 _ rfl;have w1:wrap32 x1=x1:=Y2 (hP.out x1 (by simp));have k4:=hj.out.cell 4;go_wp2
    refine HJ.out ⟨1,x0,0,[],.slice none 0 0,x1⟩ (hj.out.set 4 _) ((Turn.refl (fun q=>q=xb) w6).setCell (p:=⟨xb,4,none⟩) rfl _) ?_ ?_
    ·exact⟨.nil _ _,Stays.nil _ _⟩
    ·simp[YF,FIns.d]
   ·skip
    by_cases Hk:op=15
    ·subst Hk;obtain⟨rfl,rfl⟩:L=3∧M=3:=⟨hh.out.1.symm,hh.out.2.symm⟩;obtain rfl:n=3:=by omega
     obtain⟨x1,x2,rfl⟩:=Zbd (show nt0.length=2 from by have:=hu.out;rw[hv.out]at this;simpa using this);obtain rfl:=hv.out;have c1:w6.cell? ⟨g,1,none⟩=some (.int .i64 x1):=hf.out 1 _ rfl;have c2:w6.cell? ⟨g,2,none⟩=some (.int .i64 x2):=hf.out 2 _ rfl;have w2:wrap32 x2=x2:=Y2 (hP.out x2 (by simp));go_wp2_with fail
     refine Yx [7,9] [0,0,0,0,0,0,0,0,1,1] [0,0,1,1,1,1,0,0,1,1] [0,0,0,0,0,0,0,1,0,1] (fun p w8=>Zbh xb w6 (([#[.int .i64 15,.int .i64 x0,.int .i64 0,.slice none 0 0,.int .i32 0],#[.int .i64 15,.int .i64 x0,.int .i64 0,.slice (some ⟨g,1,none⟩) 1 (gc-1),.int .i32 0],#[.int .i64 15,.int .i64 x0,.int .i64 0,.slice (some ⟨g,1,none⟩) 1 (gc-1),.int .i32 x2]]:List (Array Value)).getD p #[]) w8) rfl (by decide +kernel) (by decide +kernel) (by decide +kernel)
      [Is (.slice (some ⟨g,0,none⟩) 3 gc),Is (.slice (some ⟨g,1,none⟩) 1 (gc-1)),Is (.slice (some ⟨g,0,none⟩) 3 gc),Is (.pointer (some ⟨g,2,none⟩)),Is (.int .i64 x2),Is (.int .i32 x2),Is (.pointer (some ⟨xb,3,none⟩)),Any,Is (.pointer (some ⟨xb,4,none⟩)),Any]
      (by repeat (first | exact trivial | refine⟨Is.fixed _,?_⟩ | refine⟨Any.fixed,?_⟩)) ⟨Turn.since ((Since.refl w6).drew),hj.out.keep ((Since.refl w6).drew)⟩ ⟨?_,?_,?_,?_,?_,?_,?_,?_,?_,?_,trivial⟩ ?_
     rotate_right
     ·intro vs w8 _ ha hk;simp only[putAll,Act.put,Zc,Zd,Is,Any,List.setIfInBounds_toArray,List.set_cons_zero,List.set_cons_succ,Nat.reduceAdd,List.length_cons,List.length_nil]at hk ⊢;try simp only[hk]
      have he:=zH (HeapIs w8 xb #[.int .i64 15,.int .i64 x0,.int .i64 0,.slice (some ⟨g,1,none⟩) 1 (gc-1),.int .i32 x2] 51) ha.b;have hd:=hid ha.t;clear ha hk;go_wp2
      refine HJ.out ⟨15,x0,0,[x1],.slice (some ⟨g,1,none⟩) 1 (gc-1),x2⟩ he.out hd.out ?_ ?_
      ·exact⟨Yz hf.out hx.out 1 1 (gc-1) (by simp) (by omega) (by have:=h3.out;omega),fun q hq=>by cases hq;exact⟨hK.out,hx.out⟩⟩
      ·simp[YF,FIns.d]
     all_goals
      intro p vs w8 hm hi _ ha hk;simp only[putAll,Act.put,Zh,Zd,Is,Any,List.setIfInBounds_toArray,List.set_cons_zero,List.set_cons_succ,Nat.reduceAdd]at hk ⊢;try simp only[hk]
     iterate 4
      ·go_wp2
       exact⟨_,rfl,rfl,trivial,ha⟩
     ·have z1:w8.cell? ⟨g,2,none⟩=some (.int .i64 x2):=(ha.t.cell (p:=⟨g,2,none⟩) hE hT).trans c2;have z2:g<w8.heap.size:=Nat.lt_of_lt_of_le hE ha.t.size;go_wp2
      exact⟨_,rfl,rfl,trivial,ha⟩
     ·go_wp2
      exact⟨_,rfl,congrArg (Value.int IntKind.i32) w2,trivial,ha⟩
     ·go_wp2
      exact⟨_,rfl,rfl,trivial,ha⟩
     ·obtain rfl:p=0:=by omega
      have hc:HeapIs w8 xb #[.int .i64 15,.int .i64 x0,.int .i64 0,.slice none 0 0,.int .i32 0] 51:=ha.b;have z1:=hc.cell 3;have ho:=hc.lt;have hs:=hc.frozen;have he:=hid hc;have hd:=hid ha.t;clear ha hc hm hi;go_wp2
      exact⟨undef,rfl,trivial,trivial,⟨hd.out.setCell (p:=⟨xb,3,none⟩) rfl _,he.out.set 3 _⟩⟩
     ·go_wp2
      exact⟨_,rfl,rfl,trivial,ha⟩
     ·obtain rfl:p=1:=by omega
      have hc:HeapIs w8 xb #[.int .i64 15,.int .i64 x0,.int .i64 0,.slice (some ⟨g,1,none⟩) 1 (gc-1),.int .i32 0] 51:=ha.b;have z1:=hc.cell 4;have ho:=hc.lt;have hs:=hc.frozen;have he:=hid hc;have hd:=hid ha.t;clear ha hc hm hi;go_wp2
      exact⟨undef,rfl,trivial,trivial,⟨hd.out.setCell (p:=⟨xb,4,none⟩) rfl _,he.out.set 4 _⟩⟩
    ·skip
     by_cases Hj:op=16
     ·subst Hj;obtain⟨rfl,rfl⟩:L=3∧M=3:=⟨hh.out.1.symm,hh.out.2.symm⟩;obtain rfl:n=3:=by omega
      obtain⟨x1,x2,rfl⟩:=Zbd (show nt0.length=2 from by have:=hu.out;rw[hv.out]at this;simpa using this);obtain rfl:=hv.out;have c1:w6.cell? ⟨g,1,none⟩=some (.int .i64 x1):=hf.out 1 _ rfl;have c2:w6.cell? ⟨g,2,none⟩=some (.int .i64 x2):=hf.out 2 _ rfl;have w2:wrap32 x2=x2:=Y2 (hP.out x2 (by simp));go_wp2_with fail
      refine Yx [7,9,11] [0,0,0,0,0,0,0,0,1,1,2,2] [1,1,2,2,2,2,0,0,1,1,2,2] [0,0,0,0,0,0,0,1,0,1,0,1] (fun p w8=>Zbh xb w6 (([#[.int .i64 16,.int .i64 x0,.int .i64 0,.slice none 0 0,.int .i32 0],#[.int .i64 16,.int .i64 0,.int .i64 0,.slice none 0 0,.int .i32 0],#[.int .i64 16,.int .i64 0,.int .i64 0,.slice (some ⟨g,0,none⟩) 2 gc,.int .i32 0],#[.int .i64 16,.int .i64 0,.int .i64 0,.slice (some ⟨g,0,none⟩) 2 gc,.int .i32 x2]]:List (Array Value)).getD p #[]) w8) rfl (by decide +kernel) (by decide +kernel) (by decide +kernel)
       [Is (.slice (some ⟨g,0,none⟩) 3 gc),Is (.slice (some ⟨g,0,none⟩) 2 gc),Is (.slice (some ⟨g,0,none⟩) 3 gc),Is (.pointer (some ⟨g,2,none⟩)),Is (.int .i64 x2),Is (.int .i32 x2),Is (.pointer (some ⟨xb,1,none⟩)),Any,Is (.pointer (some ⟨xb,3,none⟩)),Any,Is (.pointer (some ⟨xb,4,none⟩)),Any]
       (by repeat (first | exact trivial | refine⟨Is.fixed _,?_⟩ | refine⟨Any.fixed,?_⟩)) ⟨Turn.since ((Since.refl w6).drew),hj.out.keep ((Since.refl w6).drew)⟩ ⟨?_,?_,?_,?_,?_,?_,?_,?_,?_,?_,?_,?_,trivial⟩ ?_
      rotate_right
      ·intro vs w8 _ ha hk;simp only[putAll,Act.put,Zc,Zd,Is,Any,List.setIfInBounds_toArray,List.set_cons_zero,List.set_cons_succ,Nat.reduceAdd,List.length_cons,List.length_nil]at hk ⊢;try simp only[hk]
       have he:=zH (HeapIs w8 xb #[.int .i64 16,.int .i64 0,.int .i64 0,.slice (some ⟨g,0,none⟩) 2 gc,.int .i32 x2] 51) ha.b;have hd:=hid ha.t;clear ha hk;go_wp2
       refine HJ.out ⟨16,0,0,[x0,x1],.slice (some ⟨g,0,none⟩) 2 gc,x2⟩ he.out hd.out ?_ ?_
       ·exact⟨Yz hf.out hx.out 0 2 gc (by simp) (by omega) h3.out,fun q hq=>by cases hq;exact⟨hK.out,hx.out⟩⟩
       ·simp[YF,FIns.d]
      all_goals
       intro p vs w8 hm hi _ ha hk;simp only[putAll,Act.put,Zh,Zd,Is,Any,List.setIfInBounds_toArray,List.set_cons_zero,List.set_cons_succ,Nat.reduceAdd]at hk ⊢;try simp only[hk]
      iterate 4
       ·go_wp2
        exact⟨_,rfl,rfl,trivial,ha⟩
      ·have z1:w8.cell? ⟨g,2,none⟩=some (.int .i64 x2):=(ha.t.cell (p:=⟨g,2,none⟩) hE hT).trans c2;have z2:g<w8.heap.size:=Nat.lt_of_lt_of_le hE ha.t.size;go_wp2
       exact⟨_,rfl,rfl,trivial,ha⟩
      ·go_wp2
       exact⟨_,rfl,congrArg (Value.int IntKind.i32) w2,trivial,ha⟩
      ·go_wp2
       exact⟨_,rfl,rfl,trivial,ha⟩
      ·obtain rfl:p=0:=by omega
       have hc:HeapIs w8 xb #[.int .i64 16,.int .i64 x0,.int .i64 0,.slice none 0 0,.int .i32 0] 51:=ha.b;have z1:=hc.cell 1;have ho:=hc.lt;have hs:=hc.frozen;have he:=hid hc;have hd:=hid ha.t;clear ha hc hm hi;go_wp2
       exact⟨undef,rfl,trivial,trivial,⟨hd.out.setCell (p:=⟨xb,1,none⟩) rfl _,he.out.set 1 _⟩⟩
      ·go_wp2
       exact⟨_,rfl,rfl,trivial,ha⟩
      ·obtain rfl:p=1:=by omega
       have hc:HeapIs w8 xb #[.int .i64 16,.int .i64 0,.int .i64 0,.slice none 0 0,.int .i32 0] 51:=ha.b;have z1:=hc.cell 3;have ho:=hc.lt;have hs:=hc.frozen;have he:=hid hc;have hd:=hid ha.t;clear ha hc hm hi;go_wp2
       exact⟨undef,rfl,trivial,trivial,⟨hd.out.setCell (p:=⟨xb,3,none⟩) rfl _,he.out.set 3 _⟩⟩
      ·go_wp2
       exact⟨_,rfl,rfl,trivial,ha⟩
      ·obtain rfl:p=2:=by omega
       have hc:HeapIs w8 xb #[.int .i64 16,.int .i64 0,.int .i64 0,.slice (some ⟨g,0,none⟩) 2 gc,.int .i32 0] 51:=ha.b;have z1:=hc.cell 4;have ho:=hc.lt;have hs:=hc.frozen;have he:=hid hc;have hd:=hid ha.t;clear ha hc hm hi;go_wp2
       exact⟨undef,rfl,trivial,trivial,⟨hd.out.setCell (p:=⟨xb,4,none⟩) rfl _,he.out.set 4 _⟩⟩
     ·skip
      by_cases hW:op=17
      ·subst hW;obtain⟨rfl,rfl⟩:L=2∧M=6:=⟨hh.out.1.symm,hh.out.2.symm⟩;obtain⟨x1,nt,rfl⟩:∃ x1 nt,nt0=x1::nt:=by
        match nt0,hv.out with
        | x1::nt,_=>exact⟨x1,nt,rfl⟩
        | [],h=>exact absurd hu.out (by rw[h];simp;omega)
       obtain rfl:=hv.out;have c1:w6.cell? ⟨g,1,none⟩=some (.int .i64 x1):=hf.out 1 _ rfl;have w1:wrap32 x1=x1:=Y2 (hP.out x1 (by simp));obtain⟨ra,tD⟩:∃ ra,(if gc=2 then some (⟨g,0,none⟩:Addr) else some ⟨g,2,none⟩)=ra:=⟨_,rfl⟩
       have tz:Hid (WK (fun q=>PaS w0 pb bv bl q∨q=xb) w6 ⟨17,x0,0,nt,.slice ra (n-2) (gc-2),x1⟩):=hid (by
        rw[←tD];by_cases hg:gc=2
        ·rw[if_pos hg];have tG:n=2:=by omega
         subst tG hg;obtain rfl:nt=[]:=List.eq_nil_of_length_eq_zero (by have:=hu.out;simp at this;simpa using this);exact⟨.inl ⟨_,rfl,rfl⟩,fun q hq=>by cases hq;exact⟨hK.out,hx.out⟩⟩
        ·rw[if_neg hg];exact⟨X4 hf.out hx.out 2 (n-2) (gc-2) (by rw[hu.out];omega) (by rw[hu.out]) (by omega) (by have:=h3.out;omega),fun q hq=>by cases hq;exact⟨hK.out,hx.out⟩⟩)
       go_wp2_with fail
       refine Yx [7,9] [0,0,0,0,0,0,0,0,1,1] [0,0,0,0,1,1,0,0,1,1] [0,0,0,0,0,0,0,1,0,1] (fun p w8=>Zbh xb w6 (([#[.int .i64 17,.int .i64 x0,.int .i64 0,.slice none 0 0,.int .i32 0],#[.int .i64 17,.int .i64 x0,.int .i64 0,.slice none 0 0,.int .i32 x1],#[.int .i64 17,.int .i64 x0,.int .i64 0,.slice ra (n-2) (gc-2),.int .i32 x1]]:List (Array Value)).getD p #[]) w8) rfl (by decide +kernel) (by decide +kernel) (by decide +kernel)
        [Is (.slice (some ⟨g,0,none⟩) n gc),Is (.pointer (some ⟨g,1,none⟩)),Is (.int .i64 x1),Is (.int .i32 x1),Is (.slice (some ⟨g,0,none⟩) n gc),Is (.slice ra (n-2) (gc-2)),Is (.pointer (some ⟨xb,4,none⟩)),Any,Is (.pointer (some ⟨xb,3,none⟩)),Any]
        (by repeat (first | exact trivial | refine⟨Is.fixed _,?_⟩ | refine⟨Any.fixed,?_⟩)) ⟨Turn.since ((Since.refl w6).drew),hj.out.keep ((Since.refl w6).drew)⟩ ⟨?_,?_,?_,?_,?_,?_,?_,?_,?_,?_,trivial⟩ ?_
       rotate_right
       ·intro vs w8 _ ha hk;simp only[putAll,Act.put,Zc,Zd,Is,Any,List.setIfInBounds_toArray,List.set_cons_zero,List.set_cons_succ,Nat.reduceAdd,List.length_cons,List.length_nil]at hk ⊢;try simp only[hk]
        have he:=zH (HeapIs w8 xb #[.int .i64 17,.int .i64 x0,.int .i64 0,.slice ra (n-2) (gc-2),.int .i32 x1] 51) ha.b;have hd:=hid ha.t;clear ha hk;go_wp2
        refine HJ.out ⟨17,x0,0,nt,.slice ra (n-2) (gc-2),x1⟩ he.out hd.out ?_ ?_
        ·exact tz.out
        ·simp[YF,FIns.d]
       all_goals
        intro p vs w8 hm hi _ ha hk;simp only[putAll,Act.put,Zh,Zd,Is,Any,List.setIfInBounds_toArray,List.set_cons_zero,List.set_cons_succ,Nat.reduceAdd]at hk ⊢;try simp only[hk]
       iterate 2
        ·go_wp2
         exact⟨_,rfl,rfl,trivial,ha⟩
       ·have z1:w8.cell? ⟨g,1,none⟩=some (.int .i64 x1):=(ha.t.cell (p:=⟨g,1,none⟩) hE hT).trans c1;have z2:g<w8.heap.size:=Nat.lt_of_lt_of_le hE ha.t.size;go_wp2
        exact⟨_,rfl,rfl,trivial,ha⟩
       ·go_wp2
        exact⟨_,rfl,congrArg (Value.int IntKind.i32) w1,trivial,ha⟩
       iterate 3
        ·go_wp2
         exact⟨_,rfl,rfl,trivial,ha⟩
       ·obtain rfl:p=0:=by omega
        have hc:HeapIs w8 xb #[.int .i64 17,.int .i64 x0,.int .i64 0,.slice none 0 0,.int .i32 0] 51:=ha.b;have z1:=hc.cell 4;have ho:=hc.lt;have hs:=hc.frozen;have he:=hid hc;have hd:=hid ha.t;clear ha hc hm hi;go_wp2
        exact⟨undef,rfl,trivial,trivial,⟨hd.out.setCell (p:=⟨xb,4,none⟩) rfl _,he.out.set 4 _⟩⟩
       ·go_wp2
        exact⟨_,rfl,rfl,trivial,ha⟩
       ·obtain rfl:p=1:=by omega
        have hc:HeapIs w8 xb #[.int .i64 17,.int .i64 x0,.int .i64 0,.slice none 0 0,.int .i32 x1] 51:=ha.b;have z1:=hc.cell 3;have ho:=hc.lt;have hs:=hc.frozen;have he:=hid hc;have hd:=hid ha.t;clear ha hc hm hi;go_wp2
        exact⟨undef,rfl,trivial,trivial,⟨hd.out.setCell (p:=⟨xb,3,none⟩) rfl _,he.out.set 3 _⟩⟩
      ·skip
       by_cases hV:op=18
       ·subst hV;obtain⟨rfl,rfl⟩:L=4∧M=4:=⟨hh.out.1.symm,hh.out.2.symm⟩;obtain rfl:n=4:=by omega
        obtain⟨x1,x2,x3,rfl⟩:=list3 (show nt0.length=3 from by have:=hu.out;rw[hv.out]at this;simpa using this);obtain rfl:=hv.out;have c1:w6.cell? ⟨g,1,none⟩=some (.int .i64 x1):=hf.out 1 _ rfl;have c2:w6.cell? ⟨g,2,none⟩=some (.int .i64 x2):=hf.out 2 _ rfl;have c3:w6.cell? ⟨g,3,none⟩=some (.int .i64 x3):=hf.out 3 _ rfl;go_wp2_with fail
        refine Yx [6,8] [0,0,0,0,0,0,0,1,1] [0,0,0,1,1,0,0,1,1] [0,0,0,0,0,0,1,0,1] (fun p w8=>Zbh xb w6 (([#[.int .i64 18,.int .i64 x0,.int .i64 0,.slice none 0 0,.int .i32 0],#[.int .i64 18,.int .i64 x0,.int .i64 x1,.slice none 0 0,.int .i32 0],#[.int .i64 18,.int .i64 x0,.int .i64 x1,.slice (some ⟨g,2,none⟩) 2 (gc-2),.int .i32 0]]:List (Array Value)).getD p #[]) w8) rfl (by decide +kernel) (by decide +kernel) (by decide +kernel)
         [Is (.slice (some ⟨g,0,none⟩) 4 gc),Is (.pointer (some ⟨g,1,none⟩)),Is (.int .i64 x1),Is (.slice (some ⟨g,0,none⟩) 4 gc),Is (.slice (some ⟨g,2,none⟩) 2 (gc-2)),Is (.pointer (some ⟨xb,2,none⟩)),Any,Is (.pointer (some ⟨xb,3,none⟩)),Any]
         (by repeat (first | exact trivial | refine⟨Is.fixed _,?_⟩ | refine⟨Any.fixed,?_⟩)) ⟨Turn.since ((Since.refl w6).drew),hj.out.keep ((Since.refl w6).drew)⟩ ⟨?_,?_,?_,?_,?_,?_,?_,?_,?_,trivial⟩ ?_
        rotate_right
        ·intro vs w8 _ ha hk;simp only[putAll,Act.put,Zc,Zd,Is,Any,List.setIfInBounds_toArray,List.set_cons_zero,List.set_cons_succ,Nat.reduceAdd,List.length_cons,List.length_nil]at hk ⊢;try simp only[hk]
         have he:=zH (HeapIs w8 xb #[.int .i64 18,.int .i64 x0,.int .i64 x1,.slice (some ⟨g,2,none⟩) 2 (gc-2),.int .i32 0] 51) ha.b;have hd:=hid ha.t;clear ha hk;go_wp2
         refine HJ.out ⟨18,x0,x1,[x2,x3],.slice (some ⟨g,2,none⟩) 2 (gc-2),0⟩ he.out hd.out ?_ ?_
         ·exact⟨Yz hf.out hx.out 2 2 (gc-2) (by simp) (by omega) (by have:=h3.out;omega),fun q hq=>by cases hq;exact⟨hK.out,hx.out⟩⟩
         ·simp[YF,FIns.d]
        all_goals
         intro p vs w8 hm hi _ ha hk;simp only[putAll,Act.put,Zh,Zd,Is,Any,List.setIfInBounds_toArray,List.set_cons_zero,List.set_cons_succ,Nat.reduceAdd]at hk ⊢;try simp only[hk]
        iterate 2
         ·go_wp2
          exact⟨_,rfl,rfl,trivial,ha⟩
        ·have z1:w8.cell? ⟨g,1,none⟩=some (.int .i64 x1):=(ha.t.cell (p:=⟨g,1,none⟩) hE hT).trans c1;have z2:g<w8.heap.size:=Nat.lt_of_lt_of_le hE ha.t.size;go_wp2
         exact⟨_,rfl,rfl,trivial,ha⟩
        iterate 3
         ·go_wp2
          exact⟨_,rfl,rfl,trivial,ha⟩
        ·obtain rfl:p=0:=by omega
         have hc:HeapIs w8 xb #[.int .i64 18,.int .i64 x0,.int .i64 0,.slice none 0 0,.int .i32 0] 51:=ha.b;have z1:=hc.cell 2;have ho:=hc.lt;have hs:=hc.frozen;have he:=hid hc;have hd:=hid ha.t;clear ha hc hm hi;go_wp2
         exact⟨undef,rfl,trivial,trivial,⟨hd.out.setCell (p:=⟨xb,2,none⟩) rfl _,he.out.set 2 _⟩⟩
        ·go_wp2
         exact⟨_,rfl,rfl,trivial,ha⟩
        ·obtain rfl:p=1:=by omega
         have hc:HeapIs w8 xb #[.int .i64 18,.int .i64 x0,.int .i64 x1,.slice none 0 0,.int .i32 0] 51:=ha.b;have z1:=hc.cell 3;have ho:=hc.lt;have hs:=hc.frozen;have he:=hid hc;have hd:=hid ha.t;clear ha hc hm hi;go_wp2
         exact⟨undef,rfl,trivial,trivial,⟨hd.out.setCell (p:=⟨xb,3,none⟩) rfl _,he.out.set 3 _⟩⟩
       ·skip
        obtain⟨rfl,rfl⟩:L=3∧M=3:=by have h:=hh.out;simp only[least,most,if_neg h1,if_neg hW,if_neg hV]at h;exact⟨h.1.symm,h.2.symm⟩
        have q1:(op==1)=false:=by simpa using h1
        have q15:(op==15)=false:=by simpa using Hk
        have q16:(op==16)=false:=by simpa using Hj
        have q17:(op==17)=false:=by simpa using hW
        have q18:(op==18)=false:=by simpa using hV
        have tt:=hid (And.intro h1 (And.intro Hk (And.intro Hj (And.intro hW hV))));clear h1 Hk Hj hW hV;obtain rfl:n=3:=by omega
        obtain⟨x1,x2,rfl⟩:=Zbd (show nt0.length=2 from by have:=hu.out;rw[hv.out]at this;simpa using this);obtain rfl:=hv.out;have c1:w6.cell? ⟨g,1,none⟩=some (.int .i64 x1):=hf.out 1 _ rfl;have c2:w6.cell? ⟨g,2,none⟩=some (.int .i64 x2):=hf.out 2 _ rfl;have k3:=hj.out.cell 3;go_wp2
        refine HJ.out ⟨op,x0,0,[x1,x2],.slice (some ⟨g,1,none⟩) 2 (gc-1),0⟩ (hj.out.set 3 _) ((Turn.refl (fun q=>q=xb) w6).setCell (p:=⟨xb,3,none⟩) rfl _) ?_ ?_
        ·exact⟨Yz hf.out hx.out 1 2 (gc-1) (by simp) (by omega) (by have:=h3.out;omega),fun q hq=>by cases hq;exact⟨hK.out,hx.out⟩⟩
        ·have:=tt.out;simp[YF,FIns.d,this]
 have aK2:=h8.out;clear Ha h8;rcases hJ with ⟨rfl,rfl,rfl⟩|⟨rfl,rfl,rfl⟩;iterate 2
  ·go_wp2
   exact t2.out (((Since.refl w).alloc _).alloc _) (ZbP _ _ _ _)
end
end Go.Proofs.YtmhojfpidedjeaaGreatDoor
