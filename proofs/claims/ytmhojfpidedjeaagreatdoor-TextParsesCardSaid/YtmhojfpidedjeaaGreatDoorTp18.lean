import Derived.Test.YtmhojfpidedjeaaGreatDoorTp17
namespace Go.Proofs.YtmhojfpidedjeaaGreatDoor
open Go.RowKit Go.Lib
set_option linter.unusedVariables false
set_option maxHeartbeats 4000000
set_option maxRecDepth 100000
attribute [local simp] J5 JC KL J1
def TermTQ (w0:World) (pb:Nat) (tv:Value) (params pl:Int) (bv:Value) (bl:List FBlk) (k:Int) (l:List ByteArray) (w:World) (x:Ending) (w':World):Prop:=
 x=.returned (.tuple #[])∧∃ e' bl',TPa w0 pb tv params pl e' bv bl' w'∧Turn (PaOwn pb bv bl) w w'∧JI (YD ⟨params,bl.map FBlk.d,pl⟩ k l) e' params bl'
def Q2 (n:Nat):List MapEntry:=[{ key:=.int .i64 1,val:=.agg #[.int .i64 1,.int .i64 1],born:=0 },{ key:=.int .i64 2,val:=.agg #[.int .i64 3,.int .i64 3],born:=1 },{ key:=.int .i64 3,val:=.agg #[.int .i64 2,.int .i64 n],born:=2 },{ key:=.int .i64 4,val:=.agg #[.int .i64 0,.int .i64 1],born:=3 },{ key:=.int .i64 5,val:=.agg #[.int .i64 1,.int .i64 1],born:=4 }]
theorem Zc8 (k:Int) (n:Nat) (h:1≤k∧k≤5):(XW k (Q2 n)).getD (.agg #[.int .i64 0,.int .i64 0])=.agg #[.int .i64 (Va k),.int .i64 (Jl k n)]:=by
 unfold Q2;simp only[ZaU,ZbL];have:k=1∨k=2∨k=3∨k=4∨k=5:=by omega
 rcases this with rfl|rfl|rfl|rfl|rfl<;>rfl
structure ZfD (xb:Nat) (w6:World) (cs:Array Value) (w8:World):Prop where
 t:Turn (fun q=>q=xb) w6 w8
 b:HeapIs w8 xb cs 54
section
variable {w0:World} {pb:Nat} {tv:Value} {params pl:Int} {bv:Value} {bl:List FBlk}
theorem ZeS (w:World) (h:TPa w0 pb tv params pl 0 bv bl w) (hL:Ys w0) (kind:Int) (hX:1≤kind∧kind≤5) (v:Value) (l:List ByteArray) (hl:StrsIn w v l) (hV:Stays (PaOwn pb bv bl) w v) (hn:l.length≤400000) (b:FBlk) (hb:bl[bl.length-1]? = some b) (H2:bl.length≤1000000):Calls Tryz.prog 80 #[.pointer (some ⟨pb,0,none⟩),.int .i64 kind,v] w (TermTQ w0 pb tv params pl bv bl kind l w):=by
 obtain⟨a,c,e1,_⟩:=RowIn.shape hl;obtain⟨n,hZ⟩:∃ n,l.length=n:=⟨_,rfl⟩
 rw[hZ]at e1;subst e1;have hj:=@run_makeMap Tryz.prog;have hx:=@Vs Tryz.prog _ _ _ Tryz.underlying167 Tryz.underlying3;have Hf:=@Q3 Tryz.prog _ _ _ Tryz.underlying167 Tryz.underlying3 _ Zat;have hI:=Zc8 kind n hX;unfold Q2 at hI;have H:=hid h;have HV:=hid hL;have HL:=hid (fun (S:Nat→Prop) w' (hS:∀ q,S q→PaOwn pb bv bl q∨w.heap.size≤q) (t:Turn S w w')=>(RowIn.turn hl t (fun q hq hr=>by rcases hS q hr with h1 | h1;exact (hV q hq).1 h1;have:=(hV q hq).2;omega) (fun _ _ h=>h):StrsIn w' _ l))
 have H8:=hid hV;have HB:=hid hb;have h8:=hid hZ;rw[hZ]at hn;have HK:=hid hX;have Hr:=Kz kind n hX;obtain⟨L,Hk⟩:∃ L,Va kind=L:=⟨_,rfl⟩
 obtain⟨M,Hj⟩:∃ M,Jl kind n=M:=⟨_,rfl⟩
 rw[Hk,Hj]at hI Hr;obtain⟨tq,HC,tp⟩:=Hr;have tr:=hid HC;have hm:=hid (And.intro Hk Hj);have hA:=hid (fun (o:Obj) (cs:Array Value) (T:TypeId)=>(((Since.refl w).alloc o).alloc (.cells cs T):Since w ((w.alloc o).alloc (.cells cs T))))
 clear Hk Hj HC hX h hl hV hb hZ hL;go_enter Tryz.func80,Tryz.ntmps80
 by_cases hR:n<L∨M<n
 ·have HW:=hid (show YD ⟨params,bl.map FBlk.d,pl⟩ kind l=.error 70 from by
   unfold YD;rw[if_neg];rw[h8.out,hm.out.1,hm.out.2];omega)
  have Hg:∀ w5 w',Since w w5→TPa w0 pb tv params pl 70 bv bl w'→Turn (fun q=>q=pb) w5 w'→TermTQ w0 pb tv params pl bv bl kind l w (.returned (.tuple #[])) w':=fun w5 w' hs h1 h2=>⟨rfl,70,bl,h1,((Turn.since (S:=fun q=>q=pb) hs).trans h2).mono (fun q _ hq=>.inl hq),by rw[HW.out];exact⟨rfl,by decide⟩⟩
  have Hm:=hid Hg;clear Hg;by_cases HN:n<L
  ·clear hR;go_wp2_with fail
   refine (Zw _ (H.out.keep (hA.out _ _ _)) _ 70 (by decide)).mono ?_;rintro e1 w1 ⟨rfl,hp,ht⟩;have HF:=hid (Hm.out _ w1 (hA.out _ _ _) hp ht);clear hp ht hI hj hx Hf;go_wp2
   go_end0
   exact HF.out
  ·have hz:M<n:=by omega
   have tk:L≤n:=by omega
   clear hR HN;go_wp2_with fail
   refine (Zw _ (H.out.keep (hA.out _ _ _)) _ 70 (by decide)).mono ?_;rintro e1 w1 ⟨rfl,hp,ht⟩;rw[ZcT (by first | rfl | (simp;omega))]at hp ⊢;have HF:=hid (Hm.out _ w1 (hA.out _ _ _) hp ht);clear hp ht hI hj hx Hf;go_wp2
   go_end0
   exact HF.out
 ·have hF:L≤n∧n≤M:=by omega
  have tm:=hF.1;have tl:=hF.2;clear hR;go_wp2_with fail
  refine (Zw _ (H.out.keep (hA.out _ _ _)) _ 70 (by decide)).mono ?_;rintro e1 w1 ⟨rfl,hp,ht⟩;rw[ZcS (by first | rfl | (simp;omega))]at hp ⊢;have HP:=hid hp;have HT:=hid ((Turn.since (S:=fun q=>q=pb) (hA.out _ _ _)).trans ht);clear hp ht hI hj hx Hf;go_wp2_with fail
  have Hu:Stays (fun q=>q=pb) w1 (.slice a n c):=H8.out.mono (fun q hq=>.inl (.inl hq)) HT.out.size
  refine (Wj w1 HP.out HV.out _ l (HL.out _ w1 (fun q hq=>.inl (.inl hq)) HT.out) Hu (by rw[h8.out];omega)).mono ?_
  rintro e4 w4 ⟨rv,rfl,hE,Hx,Hs⟩;obtain⟨ns,hY⟩:∃ ns,numsW l=ns:=⟨_,rfl⟩
  have hN:ns.length=n:=by rw[←hY,←h8.out];unfold numsW;simp
  rw[hY,hN]at hE;obtain⟨ra,rc,HY⟩:=Ze hE;subst HY;have HE:=hid hY;have he:=hid hN;have h7:=hid hE;have te:=hid Hx;have HD:=hid (HT.out.trans Hs);clear hE Hx Hs hY hN Hu;go_upto_region 6 with (fail)
  obtain⟨xb,hT⟩:∃ xb,w4.heap.size=xb:=⟨_,rfl⟩
  have hO:HeapIs (w4.alloc (.cells #[.int .i64 kind,.slice none 0 0,.slice none 0 0,.int .i32 0] 54)) xb #[.int .i64 kind,.slice none 0 0,.slice none 0 0,.int .i32 0] 54:=by rw[←hT];exact HeapIs.new _ _ _
  have HI:=zH (w.heap.size≤xb) (by rw[←hT];exact HD.out.size);have ta:=zH (pb<xb) (by have:=H.out.box.lt;have:=HI.out;omega);obtain⟨w5,hU⟩:∃ w5,w4.alloc (.cells #[.int .i64 kind,.slice none 0 0,.slice none 0 0,.int .i32 0] 54)=w5:=⟨_,rfl⟩
  have hW:Since w4 w5:=by rw[←hU];exact (Since.refl _).alloc _
  rw[hU]at hO;rw[hT,hU];have hd:=hid hO;have H7:=hid (HD.out.later (Turn.since (S:=fun q=>q=pb) hW) (fun q hq=>.inl hq));have ti:=hid (te.out.box.keep hW);have Hn:Hid (YD ⟨params,bl.map FBlk.d,pl⟩ kind l=if ZZ l then .ok ⟨params,onLast ⟨params,bl.map FBlk.d,pl⟩ (fun b=>⟨b.phis,b.ins,YE kind (numsW l)⟩),1⟩ else .error 71):=hid (by
   unfold YD;rw[if_pos];rw[h8.out,hm.out.1,hm.out.2];exact hF)
  have hh:=hid (ZE h7.out hW);have hB:=hid (show ∀ q,(Value.slice ra n rc).ownBlock=some q→¬ (PaS w0 pb bv bl q∨q=xb)∧q<w5.heap.size from fun q hq=>⟨fun h=>by
   have h1:=World.ownsRow.lt h7.out q hq;rcases h with h|h
   ·have:=H.out.ltS q h;have:=HT.out.size;omega
   ·omega,(World.ownsRow.lt hh.out q hq).2⟩)
  have HU:=zH (∀ y∈ns,In32W y) (fun y hy=>by rw[←HE.out]at hy;unfold numsW at hy;obtain⟨z,_,rfl⟩:=List.mem_map.1 hy;exact YH z);clear hO hT hW hU
  rename_i K1 aK1 K2 aK2
  have HM:=hid aK1;have HJ:Hid (∀ {u1 u2 u3 u4 u5 u6 u7 u9 u10 u11 u12 u13 u14 u15 u16 u17 u18 u19 u20 u21 u22 u23 u24 u25 u26 u27 u28 u29 u30 u31 u32 u33 u34 u35 u36 u37 u38 u39 u40 u41 u42 u43 u44 u45 u46 u47 u48 u49 u50 u51 u52 u53 u54 u55 u56 u57 u58 u59 u60 u61 u62 u63 u64 u65 u66:Value} {w9:World} (X:Zt),HeapIs w9 xb (ZcP X).toArray 54→Turn (fun q=>q=xb) w5 w9→WJ (fun q=>PaS w0 pb bv bl q∨q=xb) w5 X→Zt.d X=YE kind ns→K1 ⟨(Value.pointer (some ⟨pb,0,none⟩)::u1::u2::u3::u4::u5::u6::u7::Value.pointer (some ⟨xb,0,none⟩)::u9::u10::u11::u12::u13::u14::u15::u16::u17::u18::u19::u20::u21::u22::u23::u24::u25::u26::u27::u28::u29::u30::u31::u32::u33::u34::u35::u36::u37::u38::u39::u40::u41::u42::u43::u44::u45::u46::u47::u48::u49::u50::u51::u52::u53::u54::u55::u56::u57::u58::u59::u60::u61::u62::u63::u64::u65::u66::[]).toArray,[]⟩ w9):=by
   clear aK1 aK2;apply hid
   intro u1 u2 u3 u4 u5 u6 u7 u9 u10 u11 u12 u13 u14 u15 u16 u17 u18 u19 u20 u21 u22 u23 u24 u25 u26 u27 u28 u29 u30 u31 u32 u33 u34 u35 u36 u37 u38 u39 u40 u41 u42 u43 u44 u45 u46 u47 u48 u49 u50 u51 u52 u53 u54 u55 u56 u57 u58 u59 u60 u61 u62 u63 u64 u65 u66 w9 X Hq ht Ho Hp;refine HM.out _ _ ?_;have Hb:=H7.out.later ht (fun q hq=>.inr (by subst hq;exact HI.out))
   have hv:=H.out.reBox Hb (ti.out.turn ht (fun e=>by have:=ta.out;omega));have H6:=hid Hb;have td:=hid hv;have H5:=hid Hq;have hD:=Ho.turn ht (S':=PaS w0 pb bv bl) (fun q hq=>.inr hq) (fun q hq=>.inl (.inl hq))
   have H3:=hid hD;have HR:=hid (show (#[Value.int .i64 X.kind,X.argsv,X.tov,.int .i32 X.imm]:Array Value).all (·.oneCell')=true from by
    obtain⟨za,zc,ze⟩:=Zp hD.read.1;obtain⟨ya,yc,ye⟩:=Zp hD.read.2;rw[ze,ye];simp[Value.oneCell'])
   have H4:=hid Hp;have th:=hid (hv.last b HB.out);have He:0<bl.length:=by
    rcases Nat.eq_zero_or_pos bl.length with h0|h0
    ·have:=(List.getElem?_eq_some_iff.1 HB.out).1;omega
    ·exact h0
   obtain⟨bb,bc,HA,H1,HO,_,Hi,HQ,Hh⟩:=YT hv.row He;obtain⟨mm,hj⟩:∃ mm,bl.length=mm+1:=⟨bl.length-1,by omega⟩
   rw[hj]at HA H2 H1;subst HA;have Hy:bl.length-1=mm:=by omega
   have c1:w9.cell? ⟨pb,1,none⟩=some (.slice (some ⟨bb,0,none⟩) (mm+1) bc):=hv.cell 1;have Hv:pb<w9.heap.size:=hv.box.lt;have Hl:=hid (show ∀ w':World,Since w9 w'→w'.there bb (mm*6+2) 4 from fun w' hs=>by
    have h1:OwnRow fbcells 6 57 0 w' (.slice (some ⟨bb,0,none⟩) (mm+1) bc) bl:=OwnRow.keep hv.row hs;unfold OwnRow at h1;rw[hj]at h1;exact ZaO h1 (by rw[Yy fbcells 6 Zs,hj];omega))
   have tf:=hid c1;have h9:=hid Hy;have HG:=hid hj;have HH:=zH (pb<w9.heap.size∧bb<w9.heap.size) ⟨Hv,Hi⟩;clear hv He Hi HQ Hh Hy hj HO Hq ht Ho Hp Hb hD c1 Hv;go_wp2_with fail
   refine Zb 3 rfl (by decide +kernel) (by decide +kernel) (by decide +kernel) (by decide)
    [Is (.pointer (some ⟨pb,0,none⟩)),Is (.pointer (some ⟨bb,mm*6,none⟩)),Is (ZfC X)]
    (by repeat (first | exact trivial | refine⟨Is.stable _,?_⟩ | refine⟨Any.stable,?_⟩)) ⟨?_,?_,?_,trivial⟩ ?_
   rotate_right
   ·intro vs w8 hs hk;simp only[List.take,List.drop,putAll,Act.put,Zc,Zd,Is,List.setIfInBounds_toArray,List.set_cons_zero,List.set_cons_succ,Nat.reduceAdd]at hk ⊢;try simp only[hk]
    have HS:=hid hs;have HX:=Hl.out _ hs;clear hs hk;go_wp2_with (refine wpList_store_mid rfl 54 _ _ rfl bb (mm*6+2) #[.int .i64 X.kind,X.argsv,X.tov,.int .i32 X.imm] rfl rfl HX (by kernel_rfl) HR.out ?_)
    go_end0
    have Hw:=td.out.keep HS.out;have H0:=th.out;have tc:Turn (fun q=>q=bb) w8 (w8.setCells bb (mm*6+2) [.int .i64 X.kind,X.argsv,X.tov,.int .i32 X.imm]):=
     ((((Turn.refl (fun q=>q=bb) w8).setCell (p:=⟨bb,mm*6+2,none⟩) rfl _).setCell (p:=⟨bb,mm*6+3,none⟩) rfl _).setCell (p:=⟨bb,mm*6+4,none⟩) rfl _).setCell (p:=⟨bb,mm*6+5,none⟩) rfl _
    have h6:=Hw.last b HB.out;have hx:=PaM.updG Hw (b':={ b with term:=X }) HB.out (bb:=bb) (cap:=bc) (by rw[HG.out]) (Turn.refl _ _) tc (fun hr=>by
     have e:mm+1=bl.length:=HG.out.symm;rw[e]at hr ⊢;rw[h9.out];exact KG hr (by rw[←h9.out];exact HB.out) X) h6.phis h6.ins (fun q hq=>.inl hq) (fun q hq=>.inl hq) h6.phi h6.inx (H3.out.turn (R:=fun _=>False) (Turn.since HS.out) (fun _ h=>h.elim) (fun q hq=>.inl hq))
    rw[h9.out]at hx;refine⟨rfl,numsE 0 l,_,hx,?_,?_⟩
    ·exact ((H6.out.mono fun q _ hq=>.inl hq:Turn (PaOwn pb _ bl) w w9).trans (Turn.since HS.out)).trans (tc.mono fun q _ hq=>.inr (.inl (by rw[hq];rfl)))
    ·rw[Hn.out];unfold numsE
     cases tj:ZZ l
     ·exact⟨rfl,by decide⟩
     ·refine⟨rfl,rfl,?_⟩;have:=WP (b':={ b with term:=X }) HB.out ⟨params,bl.map FBlk.d,pl⟩ rfl (fun b=>⟨b.phis,b.ins,YE kind (numsW l)⟩) (by rw[HE.out,←H4.out];simp[FBlk.d]);rw[h9.out]at this;exact this
   all_goals
    intro vs w8 hs hk _;simp only[List.take,putAll,Act.put,Zh,Zd,Is,List.setIfInBounds_toArray,List.set_cons_zero,List.set_cons_succ,Nat.reduceAdd]at hk ⊢;try simp only[hk]
   ·go_wp2
    exact⟨_,rfl,rfl,.refl _⟩
   ·have k1:w8.cell? ⟨pb,1,none⟩=some (.slice (some ⟨bb,0,none⟩) (mm+1) bc):=(hs.cell (p:=⟨pb,1,none⟩) HH.out.1).trans tf.out;have k2:pb<w8.heap.size:=Nat.lt_of_lt_of_le HH.out.1 hs.size;clear hk;go_wp2_with fail
    refine (K0 w8 k1 k2 (by omega)).mono ?_;rintro e3 w3 ⟨rfl,Ht⟩;have H9:=hid Ht;clear Ht k1;go_wp2
    exact⟨_,rfl,rfl,H9.out⟩
   ·have HZ:=H5.out.keep hs;clear hk;refine wpList_load_row rfl _ _ rfl xb rfl 54 _ (0,0) _ HZ Tryz.underlying54 rfl (by kernel_rfl) ?_;go_wp2
    exact⟨_,rfl,rfl,.refl _⟩
  clear aK1 HM HB Hn;have H0:=hd.out.lt;have tn:=hd.out.frozen;by_cases h1:kind=1
  ·subst h1;have k2:=hd.out.cell 2;go_wp2
   refine HJ.out ⟨1,[],.slice none 0 0,ns,.slice ra n rc,0⟩ (hd.out.set 2 _) ((Turn.refl (fun q=>q=xb) w5).setCell (p:=⟨xb,2,none⟩) rfl _) ?_ ?_
   ·exact⟨⟨.nil _ _,JB (by rw[he.out];exact hh.out)⟩,Stays.nil _ _,hB.out⟩
   ·simp[YE,Zt.d]
  ·skip
   by_cases h2:kind=2
   ·subst h2;obtain⟨rfl,rfl⟩:L=3∧M=3:=⟨hm.out.1.symm,hm.out.2.symm⟩;obtain⟨g,gc,hJ,Hz,ho,hM,hK,_,hu⟩:=YT hh.out (by omega)
    cases hJ
    have hi:=hid hu;have hC:=hid hK;have Ha:=hid ho;clear hu ho hM;obtain⟨qa,hG⟩:∃ qa,(if rc=1 then some (⟨g,0,none⟩:Addr) else some ⟨g,1,none⟩)=qa:=⟨_,rfl⟩
    have Hc:rc≠1:=by omega
    rw[if_neg Hc]at hG;subst hG;go_wp2_with fail
    refine Yx [5,7] [0,0,0,0,0,0,1,1] [0,0,1,1,0,0,1,1] [0,0,0,0,0,1,0,1] (fun p w8=>ZfD xb w5 (([#[.int .i64 2,.slice none 0 0,.slice none 0 0,.int .i32 0],#[.int .i64 2,.slice (some ⟨g,0,none⟩) 1 1,.slice none 0 0,.int .i32 0],#[.int .i64 2,.slice (some ⟨g,0,none⟩) 1 1,.slice (some ⟨g,1,none⟩) (n-1) (rc-1),.int .i32 0]]:List (Array Value)).getD p #[]) w8) rfl (by decide +kernel) (by decide +kernel) (by decide +kernel)
     [Is (.slice (some ⟨g,0,none⟩) n rc),Is (.slice (some ⟨g,0,none⟩) 1 1),Is (.slice (some ⟨g,0,none⟩) n rc),Is (.slice (some ⟨g,1,none⟩) (n-1) (rc-1)),Is (.pointer (some ⟨xb,1,none⟩)),Any,Is (.pointer (some ⟨xb,2,none⟩)),Any]
     (by repeat (first | exact trivial | refine⟨Is.fixed _,?_⟩ | refine⟨Any.fixed,?_⟩)) ⟨Turn.since ((Since.refl w5).drew),hd.out.keep ((Since.refl w5).drew)⟩ ⟨?_,?_,?_,?_,?_,?_,?_,?_,trivial⟩ ?_
    rotate_right
    ·intro vs w8 _ ha hk;simp only[putAll,Act.put,Zc,Zd,Is,Any,List.setIfInBounds_toArray,List.set_cons_zero,List.set_cons_succ,Nat.reduceAdd,List.length_cons,List.length_nil]at hk ⊢;try simp only[hk]
     have hg:=zH (HeapIs w8 xb #[.int .i64 2,.slice (some ⟨g,0,none⟩) 1 1,.slice (some ⟨g,1,none⟩) (n-1) (rc-1),.int .i32 0] 54) ha.b;have hf:=hid ha.t;clear ha hk;go_wp2
     refine HJ.out ⟨2,ns.take 1,.slice (some ⟨g,0,none⟩) 1 1,ns.drop 1,.slice (some ⟨g,1,none⟩) (n-1) (rc-1),0⟩ hg.out hf.out ?_ ?_
     ·exact⟨⟨Yz hi.out hC.out 0 1 1 (by rw[he.out];omega) (by omega) (by decide),X4 hi.out hC.out 1 (n-1) (rc-1) (by rw[he.out];omega) (by rw[he.out]) (by omega) (by have:=Ha.out;omega)⟩,fun q hq=>hB.out q (by cases hq;rfl),fun q hq=>hB.out q (by cases hq;rfl)⟩
     ·simp[YE,Zt.d]
    all_goals
     intro p vs w8 hH hz _ ha hk;simp only[putAll,Act.put,Zh,Zd,Is,Any,List.setIfInBounds_toArray,List.set_cons_zero,List.set_cons_succ,Nat.reduceAdd]at hk ⊢;try simp only[hk]
    iterate 5
     ·go_wp2
      exact⟨_,rfl,rfl,trivial,ha⟩
    ·obtain rfl:p=0:=by omega
     have hc:HeapIs w8 xb #[.int .i64 2,.slice none 0 0,.slice none 0 0,.int .i32 0] 54:=ha.b;have z1:=hc.cell 1;have hP:=hc.lt;have hQ:=hc.frozen;have hg:=hid hc;have hf:=hid ha.t;clear ha hc hH hz;go_wp2
     exact⟨undef,rfl,trivial,trivial,⟨hf.out.setCell (p:=⟨xb,1,none⟩) rfl _,hg.out.set 1 _⟩⟩
    ·go_wp2
     exact⟨_,rfl,rfl,trivial,ha⟩
    ·obtain rfl:p=1:=by omega
     have hc:HeapIs w8 xb #[.int .i64 2,.slice (some ⟨g,0,none⟩) 1 1,.slice none 0 0,.int .i32 0] 54:=ha.b;have z1:=hc.cell 2;have hP:=hc.lt;have hQ:=hc.frozen;have hg:=hid hc;have hf:=hid ha.t;clear ha hc hH hz;go_wp2
     exact⟨undef,rfl,trivial,trivial,⟨hf.out.setCell (p:=⟨xb,2,none⟩) rfl _,hg.out.set 2 _⟩⟩
   ·skip
    by_cases h3:kind=3
    ·subst h3;obtain rfl:L=2:=hm.out.1.symm;obtain⟨g,gc,hJ,Hz,ho,hM,hK,_,hu⟩:=YT hh.out (by omega)
     cases hJ
     have hi:=hid hu;have hC:=hid hK;have Ha:=hid ho;clear hu ho hM;obtain⟨qa,hG⟩:∃ qa,(if rc=1 then some (⟨g,0,none⟩:Addr) else some ⟨g,1,none⟩)=qa:=⟨_,rfl⟩
     have Hc:rc≠1:=by omega
     rw[if_neg Hc]at hG;subst hG;go_wp2_with fail
     refine Yx [5,7] [0,0,0,0,0,0,1,1] [0,0,1,1,0,0,1,1] [0,0,0,0,0,1,0,1] (fun p w8=>ZfD xb w5 (([#[.int .i64 3,.slice none 0 0,.slice none 0 0,.int .i32 0],#[.int .i64 3,.slice (some ⟨g,0,none⟩) 1 1,.slice none 0 0,.int .i32 0],#[.int .i64 3,.slice (some ⟨g,0,none⟩) 1 1,.slice (some ⟨g,1,none⟩) (n-1) (rc-1),.int .i32 0]]:List (Array Value)).getD p #[]) w8) rfl (by decide +kernel) (by decide +kernel) (by decide +kernel)
      [Is (.slice (some ⟨g,0,none⟩) n rc),Is (.slice (some ⟨g,0,none⟩) 1 1),Is (.slice (some ⟨g,0,none⟩) n rc),Is (.slice (some ⟨g,1,none⟩) (n-1) (rc-1)),Is (.pointer (some ⟨xb,1,none⟩)),Any,Is (.pointer (some ⟨xb,2,none⟩)),Any]
      (by repeat (first | exact trivial | refine⟨Is.fixed _,?_⟩ | refine⟨Any.fixed,?_⟩)) ⟨Turn.since ((Since.refl w5).drew),hd.out.keep ((Since.refl w5).drew)⟩ ⟨?_,?_,?_,?_,?_,?_,?_,?_,trivial⟩ ?_
     rotate_right
     ·intro vs w8 _ ha hk;simp only[putAll,Act.put,Zc,Zd,Is,Any,List.setIfInBounds_toArray,List.set_cons_zero,List.set_cons_succ,Nat.reduceAdd,List.length_cons,List.length_nil]at hk ⊢;try simp only[hk]
      have hg:=zH (HeapIs w8 xb #[.int .i64 3,.slice (some ⟨g,0,none⟩) 1 1,.slice (some ⟨g,1,none⟩) (n-1) (rc-1),.int .i32 0] 54) ha.b;have hf:=hid ha.t;clear ha hk;go_wp2
      refine HJ.out ⟨3,ns.take 1,.slice (some ⟨g,0,none⟩) 1 1,ns.drop 1,.slice (some ⟨g,1,none⟩) (n-1) (rc-1),0⟩ hg.out hf.out ?_ ?_
      ·exact⟨⟨Yz hi.out hC.out 0 1 1 (by rw[he.out];omega) (by omega) (by decide),X4 hi.out hC.out 1 (n-1) (rc-1) (by rw[he.out];omega) (by rw[he.out]) (by omega) (by have:=Ha.out;omega)⟩,fun q hq=>hB.out q (by cases hq;rfl),fun q hq=>hB.out q (by cases hq;rfl)⟩
      ·simp[YE,Zt.d]
     all_goals
      intro p vs w8 hH hz _ ha hk;simp only[putAll,Act.put,Zh,Zd,Is,Any,List.setIfInBounds_toArray,List.set_cons_zero,List.set_cons_succ,Nat.reduceAdd]at hk ⊢;try simp only[hk]
     iterate 5
      ·go_wp2
       exact⟨_,rfl,rfl,trivial,ha⟩
     ·obtain rfl:p=0:=by omega
      have hc:HeapIs w8 xb #[.int .i64 3,.slice none 0 0,.slice none 0 0,.int .i32 0] 54:=ha.b;have z1:=hc.cell 1;have hP:=hc.lt;have hQ:=hc.frozen;have hg:=hid hc;have hf:=hid ha.t;clear ha hc hH hz;go_wp2
      exact⟨undef,rfl,trivial,trivial,⟨hf.out.setCell (p:=⟨xb,1,none⟩) rfl _,hg.out.set 1 _⟩⟩
     ·go_wp2
      exact⟨_,rfl,rfl,trivial,ha⟩
     ·obtain rfl:p=1:=by omega
      have hc:HeapIs w8 xb #[.int .i64 3,.slice (some ⟨g,0,none⟩) 1 1,.slice none 0 0,.int .i32 0] 54:=ha.b;have z1:=hc.cell 2;have hP:=hc.lt;have hQ:=hc.frozen;have hg:=hid hc;have hf:=hid ha.t;clear ha hc hH hz;go_wp2
      exact⟨undef,rfl,trivial,trivial,⟨hf.out.setCell (p:=⟨xb,2,none⟩) rfl _,hg.out.set 2 _⟩⟩
    ·skip
     by_cases h4:kind=4
     ·subst h4;have k1:=hd.out.cell 1;go_wp2
      refine HJ.out ⟨4,ns,.slice ra n rc,[],.slice none 0 0,0⟩ (hd.out.set 1 _) ((Turn.refl (fun q=>q=xb) w5).setCell (p:=⟨xb,1,none⟩) rfl _) ?_ ?_
      ·exact⟨⟨JB (by rw[he.out];exact hh.out),.nil _ _⟩,hB.out,Stays.nil _ _⟩
      ·simp[YE,Zt.d]
     ·skip
      obtain h5:kind=5:=by have:=HK.out;omega
      subst h5;obtain⟨rfl,rfl⟩:L=1∧M=1:=⟨hm.out.1.symm,hm.out.2.symm⟩;obtain rfl:n=1:=by omega
      obtain⟨g,gc,hJ,Hz,ho,hM,hK,_,hu⟩:=YT hh.out (by omega)
      cases hJ
      have hi:=hid hu;have hC:=hid hK;have Ha:=hid ho;clear hu ho hM;obtain⟨x0,rfl⟩:=JA he.out;have c0:w5.cell? ⟨g,0,none⟩=some (.int .i64 x0):=hi.out 0 _ rfl;have wr0:wrap32 x0=x0:=Y2 (HU.out x0 (by simp));have k3:=hd.out.cell 3;go_wp2
      refine HJ.out ⟨5,[],.slice none 0 0,[],.slice none 0 0,x0⟩ (hd.out.set 3 _) ((Turn.refl (fun q=>q=xb) w5).setCell (p:=⟨xb,3,none⟩) rfl _) ?_ ?_
      ·exact⟨⟨.nil _ _,.nil _ _⟩,Stays.nil _ _,Stays.nil _ _⟩
      ·simp[YE,Zt.d]
end
def WE (s:ByteArray):List MapEntry→Bool
 | []=>true
 | e::r=>match e.key with
  | .string m=>!(s==m)&&WE s r
  | _=>false
def X3 (s:ByteArray):List MapEntry→Option Value
 | []=>none
 | e::r=>match e.key with
  | .string m=>if s==m then some e.val else X3 s r
  | _=>none
def Km:List MapEntry→Bool
 | []=>true
 | e::r=>match e.key with
  | .string _=>Km r
  | _=>false
theorem Zdv (s:ByteArray):WE s []=true:=Eq.trans (Eq.refl _) (Eq.refl true)
theorem Zct (s m:ByteArray) (v:Value) (b:Nat) (r:List MapEntry):WE s ({ key:=.string m,val:=v,born:=b }::r)=(!(s==m)&&WE s r):=Eq.trans (Eq.refl _) (Eq.refl _)
theorem Zeh (s:ByteArray):X3 s []=none:=Eq.trans (Eq.refl _) (Eq.refl _)
theorem Zdp (s m:ByteArray) (v:Value) (b:Nat) (r:List MapEntry):X3 s ({ key:=.string m,val:=v,born:=b }::r)=if s==m then some v else X3 s r:=Eq.trans (Eq.refl _) (Eq.refl _)
theorem WS (s:ByteArray):∀ (l:List MapEntry) (i:Nat),WE s l=true→Instr.findNow .string (.string s) l i=some none
 | [],_,_=>rfl
 | e::r,i,h=>by
  unfold WE at h
  split at h
  ·rename_i m hm
   simp at h
   have hb:(s==m)=false:=by simpa using h.1
   simp[Instr.findNow,hm,Instr.sameNow,hb,WS s r _ h.2]
  ·cases h
theorem JN (s:ByteArray) (v:Value):∀ (l:List MapEntry) (i:Nat),X3 s l=some v→∃ j,Instr.findNow .string (.string s) l i=some (some (j,v))
 | [],_,h=>by cases h
 | e::r,i,h=>by
  unfold X3 at h
  split at h
  ·rename_i m hm
   cases hb:s==m with
   | true=>rw[hb]at h;simp at h;exact⟨i,by simp[Instr.findNow,hm,Instr.sameNow,hb,h]⟩
   | false =>
    rw[hb]at h
    obtain⟨j,hj⟩:=JN s v r (i+1) (by simpa using h)
    exact⟨j,by simp[Instr.findNow,hm,Instr.sameNow,hb,hj]⟩
  ·cases h
theorem KJ (s:ByteArray):∀ l:List MapEntry,Km l=true→X3 s l=none→WE s l=true
 | [],_,_=>rfl
 | e::r,h,hl=>by
  unfold Km at h
  split at h
  ·rename_i m hm
   unfold X3 at hl
   rw[hm]at hl
   unfold WE
   rw[hm]
   cases hb:s==m with
   | true=>simp[hb]at hl
   | false =>
    simp only[hb]at hl ⊢
    simpa using KJ s r h (by simpa using hl)
  ·cases h
theorem JT {P : Program} {t K E:TypeId} (ht:P.underlying t=some (.map K E)) (hK:P.underlying K=some .string) (w:World) (es:List MapEntry) (b c:Nat) (s:ByteArray) (v:Value) (hs:b=w.heap.size) (hf:WE s es=true) :
  (Instr.mapUpdate t (.map (some b)) (.string s) v).run P (w.alloc (.map es.toArray c))=.ok () (w.alloc (.map (es++[({ key:=.string s,val:=v,born:=c }:MapEntry)]).toArray (c+1))):=by
 subst hs;have hb:=(MapKept.heap_alloc w (.map es.toArray c)).1;have ha:MapKept.IsKey .string (.string s):=trivial;have hc:Instr.findNow .string (.string s) es.toArray.toList 0=some none:=WS s es 0 hf;simp only[Instr.mapUpdate,Sem.run_bind,run_underlying ht,Result.andThen,MapKept.run_getObj_map hb,MapKept.run_checkKey hK ha,MapKept.run_findKey hK hc,MapKept.run_setObj_map _ hb];rw[Za5];simp
theorem Zck {P : Program} {t K E:TypeId} (ht:P.underlying t=some (.map K E)) (hK:P.underlying K=some .string) (z:Value) (hz:∀ w:World,(zeroValue E).run P w=.ok z w) (w:World) (es:List MapEntry) (b c:Nat) (s:ByteArray) (hb:w.heap[b]? = some (.map es.toArray c)) (hi:Km es=true) :
  (Instr.lookup t (.map (some b)) (.string s) true).run P w=.ok (.tuple #[(X3 s es).getD z,.bool (X3 s es).isSome]) w:=by
 have ha:MapKept.IsKey .string (.string s):=trivial
 cases hl:X3 s es with
 | none =>
  have hc:Instr.findNow .string (.string s) es.toArray.toList 0=some none:=WS s es 0 (KJ s es hi hl);simp[Instr.lookup,run_underlying ht,MapKept.run_getObj_map hb,MapKept.run_checkKey hK ha,MapKept.run_findKey hK hc,hz,Result.andThen]
 | some v =>
  obtain⟨j,hj⟩:=JN s v es.toArray.toList 0 hl;simp[Instr.lookup,run_underlying ht,MapKept.run_getObj_map hb,MapKept.run_checkKey hK ha,MapKept.run_findKey hK hj,Result.andThen]
theorem ZdN (w:World):(zeroValue 26).run Tryz.prog w=.ok .nilFunc w:=by kernel_rfl
end Go.Proofs.YtmhojfpidedjeaaGreatDoor
