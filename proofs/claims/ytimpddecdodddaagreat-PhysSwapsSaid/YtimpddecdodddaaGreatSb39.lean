import Derived.Test.YtimpddecdodddaaGreatSb25
import Derived.Test.YtimpddecdodddaaGreatSb33
import Derived.Test.YtimpddecdodddaaGreatSb36
import Derived.Test.YtimpddecdodddaaGreatSb38
namespace Go.Proofs.YtimpddecdodddaaGreat
open Go.RowKit Go.Lib
set_option linter.unusedVariables false
set_option maxHeartbeats 16000000
set_option maxRecDepth 1000000
theorem yU {P:Prop} (h:P:=by
 conv=>rhs;rw[←List.take_append_drop j l,List.map_append,List.sum_append]
 omega):P:=h
theorem ZdI (w:World) (ex:List Bx) (sa:Option Addr) (sl sc:Nat) (l:List Int) (rows:List (Value × List Int)) (m:MkSt) (r mb bb n tb pb:Nat) (ph:List Int) (x:Int) (a0:Act) (w1:World) (Q0:Exit→Act→World→Prop) (hx:Fr [(2,.pointer (some ⟨r,0,none⟩)),(3,.pointer (some ⟨mb,0,none⟩)),(4,.int .i64 n),(7,.slice (some ⟨pb,0,none⟩) n n),(25,.int .i64 (1:Nat))] a0)
  (ha:MSt w ex mb bb tb (.slice sa sl sc) l n rows m w1) (ht:1≤n∧n≤9) (hE:∀ z∈ex,z.ty≠141) (hn:bxP pb ph∈ex) (he:Xk x ph n 0 m)
  (hQ:∀ a1 w2 (m:MkSt) (c:Nat),Fr [(2,.pointer (some ⟨r,0,none⟩)),(3,.pointer (some ⟨mb,0,none⟩)),(4,.int .i64 n),(7,.slice (some ⟨pb,0,none⟩) n n)] a1→MSt w ex mb bb tb (.slice sa sl sc) l n rows m w2→Xk x ph n c m→c≤216→Q0 .normal a1 w2):Code.wp Tryz.prog (mkCode [1,1,1,1,1,1,1,1,1,1,1,1,0,1]) Q0 a0 w1:=by
 obtain⟨u,hb,hu⟩:=Zq hx;obtain⟨g1,g2,s2,s3,s4,s7,s25,g3⟩:=hx;have e2:=hu 2 _ s2;have e3:=hu 3 _ s3;have e4:=hu 4 _ s4;have e7:=hu 7 _ s7;have e25:=hu 25 _ s25;rw[e2,e3,e4,e7,e25]at hb;subst hb;clear hu g1 g2 g3 e2 s2 e3 s3 e4 s4 e7 s7 e25 s25
 conv=>arg 2;whnf
 have HQ:=hid hQ;have HE:=hid hE;have hd:=hid he;have hL:=hid hn;clear hQ hE he hn;go_wp2_with fail
 refine ZO (fun t ac wr=>∃ (b:Nat) (m:MkSt),t=n-b∧(1≤b∧b≤n)∧Fr [(2,.pointer (some ⟨r,0,none⟩)),(3,.pointer (some ⟨mb,0,none⟩)),(4,.int .i64 n),(7,.slice (some ⟨pb,0,none⟩) n n),(25,.int .i64 b)] ac∧MSt w ex mb bb tb (.slice sa sl sc) l n rows m wr∧∃ c,c≤27*(b-1)∧Xk x ph n c m) (n-1) ⟨1,m,rfl,⟨Nat.le_refl _,ht.1⟩,(Zu rfl rfl (Za rfl (Za rfl (Za rfl (Za rfl (Za rfl (Zh _))))))),ha,0,Nat.zero_le _,hd.out⟩ ?_
 ·clear ha hd m;intro t a1 wr K hJ hK;have hP:=hid hK;clear hK;obtain⟨b,m,rfl,⟨hU,hT⟩,hf,ha,c,hc,he⟩:=hJ;obtain⟨u,hb,hu⟩:=Zq hf;obtain⟨g1,g2,s2,s3,s4,s7,s25,g3⟩:=hf;have e2:=hu 2 _ s2;have e3:=hu 3 _ s3;have e4:=hu 4 _ s4;have e7:=hu 7 _ s7;have e25:=hu 25 _ s25;rw[e2,e3,e4,e7,e25]at hb;subst hb;clear hu g1 g2 g3 e2 s2 e3 s3 e4 s4 e7 s7 e25 s25;have hl:=hid ha;have hd:=hid he;by_cases hw:b<n
  ·have hk:=ha.box;have hH:=hk.cell 2;have hG:=hk.cell 3;have hF:=hk.lt;have hy:=hid (Qh m.params m.bks (.slice (some ⟨bb,0,none⟩) n n) wr ha.fn.tos (by rw[ha.len];omega) b);clear ha he hk;go_wp2_with fail
   refine hy.out.mono ?_;rintro e w2 ⟨pv,ps,rfl,hi,hm,hr,ho⟩;rw[hl.out.len]at hr ho;obtain⟨pa,pc,hq⟩:=Zf hi;obtain⟨pl,hh⟩:∃ z,ps.length=z:=⟨_,rfl⟩
   obtain⟨pbx,hs,hj⟩:=Zbh hi;rw[hh]at hq hr;subst hq;obtain⟨v,hv,hD,hS⟩:∃ v,ph[b]? = some v∧0≤v∧v≤3:=by
    obtain⟨v,hv⟩:∃ v,ph[b]? = some v:=⟨_,List.getElem?_eq_getElem (by rw[hd.out.phs.1];exact hw)⟩
    exact⟨v,hv,hd.out.phs.2.1 v (List.mem_of_getElem? hv)⟩
   obtain⟨vn,rfl⟩:=Int.eq_ofNat_of_zero_le hD;have HV:=hid hv;have hO:=hid hs;have hN:=hid ho;have hM:=hid hh;have hI:=hid (show ∀ z∈ex++pbx,z.ty≠141 from fun z hz=>by
    rcases List.mem_append.1 hz with hz|hz
    ·exact HE.out z hz
    ·rw[(hj z hz).2];decide)
   have hB:=hid (hl.out.beside (ex':=ex++pbx) (T:=fun _=>False) (Turn.since hm) (fun q _ e=>e.elim) fun z hz=>by
    rcases List.mem_append.1 hz with hz|hz
    ·exact⟨(hl.out.boxes z hz).1.keep hm,.inl ⟨z,hz,rfl⟩⟩
    ·exact⟨(hj z hz).1.1,.inr (hj z hz).1.2⟩)
   clear hi hm ho hs hj hh hv hH hG hF hy;go_upto_block 26 with fail
   refine ZdG w (ex++pbx) pbx sa pa sl sc pc l ps rows m r mb bb n tb pb b pl vn c ph x _ _ _ (Zu rfl rfl (Za rfl (Za rfl (Za rfl (Za rfl (Za rfl (Za rfl (Za rfl (Zh _))))))))) hB.out ht hw hI.out hO.out (fun z hz=>List.mem_append_right _ hz) hM.out kT hN.out (List.mem_append_left _ hL.out) HV.out kT hd.out kT ?_;intro a1 w3 m3 hf hg hp;obtain⟨u,hb,hu⟩:=Zq hf;obtain⟨g1,g2,s2,s3,s4,s7,s25,s26,g3⟩:=hf;have e2:=hu 2 _ s2;have e3:=hu 3 _ s3;have e4:=hu 4 _ s4;have e7:=hu 7 _ s7;have e25:=hu 25 _ s25;have e26:=hu 26 _ s26;rw[e2,e3,e4,e7,e25,e26]at hb;subst hb;clear hu g1 g2 g3 e2 s2 e3 s3 e4 s4 e7 s7 e25 s25 e26 s26;have hA:=hid (hg.beside (ex':=ex) (T:=fun _=>False) (Turn.refl _ _) (fun q _ e=>e.elim) fun z hz=>⟨(hg.boxes z (List.mem_append_left _ hz)).1,.inl ⟨z,List.mem_append_left _ hz,rfl⟩⟩)
   have hC:=hid hp;have hR:pl*vn≤27:=Nat.mul_le_mul (show pl≤9 by omega) (show vn≤3 by omega);clear hg hp;go_wp2_with fail
   exact hP.out (n-(b+1)) _ _ kT ⟨b+1,m3,rfl,⟨kT,kT⟩,(Zu rfl rfl (Za rfl (Za rfl (Za rfl (Za rfl (Za rfl (Zh _))))))),hA.out,_,kT,hC.out⟩
  ·obtain rfl:n=b:=kT
   clear ha he;go_wp2_with fail
   exact HQ.out _ _ m c (Zu rfl rfl (Za rfl (Za rfl (Za rfl (Za rfl (Zh _)))))) hl.out hd.out kT
structure MadeF (f:FnV):Prop where
 params:0≤f.params∧f.params≤4
 blocks:1≤f.blocks.length∧f.blocks.length≤9
 head:∀ k,f.blocks[0]? = some k→k.phis=[]
 phis:∀ k∈f.blocks,k.phis.length≤3∧∀ p∈k.phis,(0≤p.dst∧p.dst<700)∧p.ins.length≤9∧∀ y∈p.ins,(0≤y.1∧y.1<(f.blocks.length:Int))∧0≤y.2∧y.2<700
 ins:∀ k∈f.blocks,∀ x∈k.ins,Ya 700 x
 total:(f.blocks.map fun b=>b.ins.length).sum≤700
 terms:∀ k∈f.blocks,Y8 700 f.blocks.length k.term
def Zbm (w:World) (f:FnV):Prop:=∀ k∈f.blocks,(∀ x∈k.ins,∀ q,x.av.ownBlock=some q→q<w.heap.size)∧(∀ q,k.term.argsv.ownBlock=some q→q<w.heap.size)∧∀ q,k.term.tov.ownBlock=some q→q<w.heap.size
theorem MadeF.of {x : Int} {ph:List Int} {n c:Nat} {m : MkSt} {bv:Value} (h:Xk x ph n c m) (hl:m.bks.length=n) (hn:1≤n∧n≤9) (hc:c≤216) (hx:0≤x∧x≤4) (hg:Zco m):MadeF ⟨m.params,m.bks,bv⟩:=by
 have ht:=h.total;have hb:=h.next;have hp:m.params=x:=h.params;refine⟨by show 0≤m.params∧m.params≤4;omega,by show 1≤m.bks.length∧m.bks.length≤9;omega,fun k hk=>?_,fun k hk=>⟨?_,fun p hp=>?_⟩,fun k hk y hy=>(hg.ins k hk y hy).mono kT,?_,fun k hk=>?_⟩
 ·exact List.length_eq_zero_iff.1 (by have:=h.cnt 0 k 0 hk h.phs.2.2;omega)
 ·obtain⟨j,hj⟩:=List.getElem?_of_mem hk;have ha:=(List.getElem?_eq_some_iff.1 hj).1;obtain⟨v,hv⟩:∃ v,ph[j]? = some v:=⟨_,List.getElem?_eq_getElem (by rw[h.phs.1];replace ha:j<m.bks.length:=ha;omega)⟩
  have h1:=h.cnt j k v hj hv;have h2:=h.phs.2.1 v (List.mem_of_getElem? hv);omega
 ·have h1:=h.phi k hk p hp;rw[show (⟨m.params,m.bks,bv⟩:FnV).blocks.length=n from hl];exact h1
 ·show m.total≤700
  omega
 ·rw[show (⟨m.params,m.bks,bv⟩:FnV).blocks.length=n from hl];exact h.terms k hk
def Zfl (w:World) (f:FnV):Prop:=(∀ k∈f.blocks,OwnRow fpcells 2 138 0 w k.phv k.phis∧OwnRow Z3 5 180 0 w k.inv k.ins)∧∃ bb n,f.bv=.slice (some ⟨bb,0,none⟩) n n∧HeapIs w bb (f.blocks.flatMap fbcells).toArray 177
theorem ZcP (sv:Value) (l:List Int) (w:World) (hs:Zi w sv l) (H6:∀ q,sv.ownBlock=some q→q<w.heap.size) :
  Calls Tryz.prog 81 #[sv] w (fun e w'=>∃ f:FnV,e=.returned (fv f)∧FnIn w' f∧MadeF f∧Since w w'∧Zbm w' f∧Zfl w' f):=by
 obtain⟨sa,sc,hv⟩:=Zb hs;obtain⟨sl,HB⟩:∃ x,l.length=x:=⟨_,rfl⟩
 rw[HB]at hv;subst hv;have HS:=hid hs;have HR:=hid H6;clear hs HB;go_enter Tryz.func81,Tryz.ntmps81
 go_wp2_with fail
 obtain⟨mb,hV⟩:∃ x,x=w.heap.size+1:=⟨_,rfl⟩
 obtain⟨w1,hN⟩:∃ x,x=((w.alloc (.cells #[.int .i64 0,.slice none 0 0] 109)).alloc (.cells #[.slice sa sl sc,.int .i64 0,.int .i64 0,.slice none 0 0,.int .i64 0,.slice none 0 0] 111)):=⟨_,rfl⟩
 have HV:=zH (HeapIs w1 w.heap.size #[.int .i64 0,.slice none 0 0] 109) (by rw[hN];exact (HeapIs.new _ _ _).keep ((Since.refl _).alloc _))
 have tc:=zH (Since w w1) (by rw[hN];exact ((Since.refl _).alloc _).alloc _)
 have H1:=hid (show MkOk (fun q=>q=w.heap.size) mb (.slice none 0 0) (.slice sa sl sc) l mk0 w1 from by
  have hz:(w.alloc (.cells #[.int .i64 0,.slice none 0 0] 109)).heap.size=w.heap.size+1:=by simp
  have h:=Zep (C:=fun q=>q=w.heap.size) (w:=w.alloc (.cells #[.int .i64 0,.slice none 0 0] 109)) (HS.out.keep ((Since.refl _).alloc _)) (fun q hq=>by have:=HR.out q hq;omega) (fun q hq=>⟨kT,fun e=>by have:=HR.out q e;omega⟩) (HeapIs.new _ #[.slice sa sl sc,.int .i64 0,.int .i64 0,.slice none 0 0,.int .i64 0,.slice none 0 0] _);rw[hz]at h;rw[hN,hV];exact h)
 rw[←hN,←hV];have hD:=hid hV;clear hN hV;refine (ZB H1.out 5 kS kS).mono ?_;rintro e w2 ⟨m2,⟨x,rfl,⟨h7,H5⟩,hX⟩,h2,mv2⟩;have hm:HeapIs w2 mb #[.slice sa sl sc,.int .i64 m2.at_,.int .i64 m2.params,.slice none 0 0,.int .i64 m2.next,m2.livev] 111:=h2.made;have HG:HeapIs ((w2.setCell ⟨mb,2,none⟩ (.int .i64 x)).setCell ⟨mb,4,none⟩ (.int .i64 x)) mb #[.slice sa sl sc,.int .i64 m2.at_,.int .i64 x,.slice none 0 0,.int .i64 x,m2.livev] 111:=(hm.set 2 (.int .i64 x)).set 4 (.int .i64 x);have t3:Turn (fun q=>q=mb) w2 ((w2.setCell ⟨mb,2,none⟩ (.int .i64 x)).setCell ⟨mb,4,none⟩ (.int .i64 x)):=((Turn.refl (fun q=>q=mb) w2).setCell (p:=⟨mb,2,none⟩) rfl _).setCell (p:=⟨mb,4,none⟩) rfl _;have H3:=hid (h2.setHead (p:=x) (next':=x) HG t3 (by rw[hX];exact h7) ⟨h7,kT,Int.le_refl _⟩);have tq:=hm.cell 2;have tp:=hm.cell 4;have tl:=hm.lt;have tn:=hm.frozen;have HQ:m2.at_=1:=by rw[hX];rfl
 have Hm:m2.bks=[]∧m2.livev=.slice none 0 0∧m2.live=[]:=by rw[hX];exact⟨rfl,rfl,rfl⟩
 have hI:=hid (And.intro HQ Hm);have Ho:=zH (Since w ((w2.setCell ⟨mb,2,none⟩ (.int .i64 x)).setCell ⟨mb,4,none⟩ (.int .i64 x))) (t3.toSince (mv2.turn.toSince tc.out fun k hk e=>by have h2:=KT e;have:=hD.out;omega) fun k hk e=>by have:=hD.out;omega)
 have Hr:=hid ((HV.out.turn mv2.turn (fun ho=>(H1.out.aside w.heap.size rfl).2 ho)).turn t3 (by have:=hD.out;omega))
 clear hm HG t3 hX h2 mv2 HQ Hm;go_wp2_with fail
 obtain⟨w3,Hy⟩:∃ y,y=((w2.setCell ⟨mb,2,none⟩ (.int .i64 x)).setCell ⟨mb,4,none⟩ (.int .i64 x)):=⟨_,rfl⟩
 rw[←Hy]at H3 Hr Ho ⊢;clear Hy;refine (ZB H3.out 9 kS (by show m2.at_≤_;have:=hI.out.1;omega)).mono ?_;rintro e w4 ⟨m4,⟨y,rfl,⟨H0,HZ⟩,hW⟩,h4,mv4⟩;have HP:m4.at_=2:=by rw[hW];show m2.at_+1=2;rw[hI.out.1]
 have HO:m4.bks=[]:=by rw[hW];exact hI.out.2.1
 have hU:m4.next=x∧m4.params=x∧m4.livev=.slice none 0 0∧m4.live=[]:=by rw[hW];exact⟨rfl,rfl,hI.out.2.2.1,hI.out.2.2.2⟩
 have H4:=hid h4;have Hn:=zH (Since w w4) (mv4.turn.toSince Ho.out fun k hk e=>by have h2:=JY (m:={ m2 with params:=x,next:=x }) hI.out.2.2.1 hI.out.2.1 e;have:=hD.out;omega)
 have Hq:=hid (Hr.out.turn mv4.turn (fun ho=>(H3.out.aside w.heap.size rfl).2 ho))
 have hw:=zH (m4.at_=2∧m4.bks=[]∧(m4.next=x∧m4.params=x)∧m4.livev=.slice none 0 0∧m4.live=[]) ⟨HP,HO,⟨hU.1,hU.2.1⟩,hU.2.2⟩;have h5:=zH (w.heap.size<w4.heap.size) (by have:=Hq.out.lt;exact this);clear h4 mv4 hW HP HO hU H3 Hr H1 HV;go_wp2_with fail
 obtain⟨n,hn⟩:∃ n:Nat,1+y=(n:Int):=⟨(1+y).toNat,kT⟩
 have hE:1≤n∧n≤9:=kT
 rw[hn];clear hn H0 HZ;refine (Za3 H4.out (by have:=hw.out.1;omega) n hE).mono ?_;rintro e w5 ⟨tb,rows,m5,a,rfl,hT,ha,HN⟩;have HT:=hid hT;have te:=hid HN;have HU:=zH (Since w w5) (HT.out.mv.turn.toSince Hn.out fun k hk e=>by have h2:=JY hw.out.2.2.2.1 hw.out.2.1 e;have:=hD.out;omega);have Hp:=hid (Hq.out.turn hT.mv.turn (fun ho=>(H4.out.aside w.heap.size rfl).2 ho))
 clear hT HN H4 Hq;have Hi:(Tryz.prog.info? 177).map (fun i=>(i.zero,i.size,i.bytes))=some (some (.agg #[.slice none 0 0,.slice none 0 0,.int .i64 0,.slice none 0 0,.slice none 0 0,.int .i32 0]),6,112):=by kernel_rfl
 obtain⟨ti,Hz,Hx,Hw,Hv⟩:=info_parts Hi;have TI:=hid (And.intro Hz (And.intro Hx (And.intro Hw Hv)));have Hg:HeapIs w5 mb #[.slice sa sl sc,.int .i64 m5.at_,.int .i64 m5.params,.slice none 0 0,.int .i64 m5.next,m5.livev] 111:=HT.out.ok.made;have hM:=hid Hg;clear Hi Hz Hx Hw Hv Hg;go_upto_block 0 with (refine wpList_make_full _ rfl (.tmp 55) (.tmp 55) 107 rfl w5.heap.size 177 ti (.agg #[.slice none 0 0,.slice none 0 0,.int .i64 0,.slice none 0 0,.slice none 0 0,.int .i32 0]) 6 Tryz.underlying107 TI.out.1 TI.out.2.1 TI.out.2.2.1 .i64 .i64 _ _ n rfl rfl rfl rfl (by rw[TI.out.2.2.2];omega) ky (Nat.le_refl _) ?_;intro w6 hl hg;have hB:=Wb rfl kS hl hg;have hd:=hid hB;have hK:=hM.out.keep hB.1;have ta:=hK.cell 3;have H8:=hK.lt;have H9:=hK.frozen;clear hK hB hl hg)
 obtain⟨w7,hR⟩:∃ y,y=w6.setCell ⟨mb,3,none⟩ (.slice (some ⟨w5.heap.size,0,none⟩) n n):=⟨_,rfl⟩
 have t7:Turn (fun q=>q=mb) w6 w7:=by rw[hR];exact (Turn.refl (fun q=>q=mb) w6).setCell (p:=⟨mb,3,none⟩) rfl _
 have Hf:HeapIs w7 mb #[.slice sa sl sc,.int .i64 m5.at_,.int .i64 m5.params,.slice (some ⟨w5.heap.size,0,none⟩) n n,.int .i64 m5.next,m5.livev] 111:=by rw[hR];exact (hM.out.keep hd.out.1).set 3 _
 have Hh:m5.bks=[]:=by
  have h1:=HT.out.mv.len;rw[hw.out.2.1]at h1;exact List.length_eq_zero_iff.1 h1
 have hZ:(List.replicate n fb0).flatMap fbcells=(List.replicate n (Value.agg #[.slice none 0 0,.slice none 0 0,.int .i64 0,.slice none 0 0,.slice none 0 0,.int .i32 0]).cells.toList).flatten:=by
  rw[List.flatMap_def,List.map_replicate];rfl
 have HF:¬ w5.heap.size=mb:=fun e=>by have:=hM.out.lt;omega
 have H7:=hid (MkOk.setBlocks (C:=fun q=>q=w.heap.size) (n:=n) (bb:=w5.heap.size) (HT.out.ok.swapC (C':=fun q=>q=w.heap.size) (T:=fun _=>False) (Turn.since (Since.refl _)) (fun q _ e=>e.elim) (fun q hq=>⟨.inl (.inl hq),by rw[hq];exact Hp.out.lt⟩)) Hh kT (Nat.le_refl _) (by rw[hZ];exact hd.out.2.turn t7 HF) Hf ((Turn.since (S:=fun q=>q=mb) hd.out.1).trans t7));have hL:∀ q,CE [⟨w.heap.size,#[.int .i64 0,.slice none 0 0],109⟩] q→q=w.heap.size:=fun q hq=>by
  obtain⟨x,hx,H2⟩:=hq;rw[←H2,List.mem_singleton.1 hx]
 have hC:=hid (show MSt w [⟨w.heap.size,#[.int .i64 0,.slice none 0 0],109⟩] mb w5.heap.size tb (.slice sa sl sc) l n rows { m5 with bks:=List.replicate n fb0 } w7 from by
  have Hl:Own mb (.slice (some ⟨w5.heap.size,0,none⟩) n n) { m5 with bks:=List.replicate n fb0 }=fun q=>Own mb (.slice (some ⟨w5.heap.size,0,none⟩) n n) { m5 with bks:=List.replicate n fb0 } q:=rfl
  have hY:∀ q,Own mb (.slice none 0 0) m5 q→w.heap.size≤q:=fun q hq=>by
   rcases HT.out.mv.new q hq with h1|h1
   ·have h2:=JY hw.out.2.2.2.1 hw.out.2.1 h1;have:=hD.out;omega
   ·have:=h5.out;omega
  have HY:∀ q,Own mb (.slice (some ⟨w5.heap.size,0,none⟩) n n) { m5 with bks:=List.replicate n fb0 } q→w.heap.size≤q:=by
   rintro q (hq|hq|hq|⟨b,hb,hq⟩)
   ·exact hY q (.inl hq)
   ·have hq:w5.heap.size=q:=Option.some.inj hq;rw[←hq];exact Nat.le_trans (Nat.le_of_lt h5.out) HT.out.mv.turn.size
   ·exact hY q (.inr (.inr (.inl hq)))
   ·rw[(List.mem_replicate.1 hb).2]at hq;rcases hq with hq|hq<;>cases hq
  have HC:HeapIs w7 w.heap.size #[.int .i64 0,.slice none 0 0] 109:=(Hp.out.keep hd.out.1).turn t7 (by have:=hD.out;omega);refine⟨H7.out.swapC (T:=fun _=>False) (Turn.refl _ _) (fun q _ e=>e.elim) (fun q hq=>⟨.inl (hL q hq),by rw[hL q hq];exact HC.lt⟩),fun x hx=>?_,?_,?_,HY,by simp,HT.out.len,HT.out.inr,HT.out.few⟩
  ·rw[List.mem_singleton.1 hx];exact⟨HC,Nat.le_refl _⟩
  ·have hS:∀ q,CR (fun q=>q=w.heap.size) tb rows q→¬ Own mb (.slice none 0 0) m5 q∧q<w5.heap.size:=fun q hq=>⟨(HT.out.ok.aside q hq).2,(HT.out.ok.aside q hq).1⟩
   have HE:∀ q,CR (fun q=>q=w.heap.size) tb rows q→w.heap.size<q→¬ Zy (CE [⟨w.heap.size,#[.int .i64 0,.slice none 0 0],109⟩]) mb (.slice (some ⟨w5.heap.size,0,none⟩) n n) { m5 with bks:=List.replicate n fb0 } q:=by
    rintro q hq HH ((hi|hi|hi|⟨b,hb,hi⟩)|hi)
    ·exact (hS q hq).1 (.inl hi)
    ·cases hi;exact absurd (hS _ hq).2 (Nat.lt_irrefl _)
    ·exact (hS q hq).1 (.inr (.inr (.inl hi)))
    ·rw[(List.mem_replicate.1 hb).2]at hi;rcases hi with hi|hi<;>cases hi
    ·rw[hL q hi]at HH;exact absurd HH (Nat.lt_irrefl _)
   have h4:=h5.out;have He:∀ q,CR (fun q=>q=w.heap.size) tb rows q→¬ q=mb:=fun q hq e=>(hS q hq).1 (.inl e)
   refine⟨(HT.out.box.keep hd.out.1).turn t7 (He tb (.inr (.inl rfl))),HE tb (.inr (.inl rfl)) (by have:=HT.out.low;omega),fun r hr=>?_⟩;have ho:=HT.out.own r hr;have HJ:=World.ownsRow.lt ho;refine⟨((ZF ho).keep hd.out.1).turn t7 fun q hq=>He q (.inr (.inr ⟨r,hr,hq⟩)),fun q hq=>⟨HE q (.inr (.inr ⟨r,hr,hq⟩)) ?_,?_⟩⟩
   ·have:=(HJ q hq).1;omega
   ·have h1:=(HJ q hq).2;have h2:=hd.out.1.size;have h3:=t7.size;omega
  ·exact t7.toSince ((HU.out).trans hd.out.1) fun k hk e=>by have:=hD.out;omega)
 have hO:=hid (show m5.at_≤102∧m5.next=x∧m5.params=x∧m5.live=[] from by
  have h1:=HT.out.mv.at_;have h2:=HT.out.mv.next;have h3:=HT.out.mv.live;rw[hw.out.1]at h1;rw[hw.out.2.2.1.1]at h2;rw[hw.out.2.2.2.2]at h3;refine⟨kT,kT,HT.out.mv.same.1.trans hw.out.2.2.1.2,List.length_eq_zero_iff.1 ?_⟩;simp only[List.length_nil]at h3;omega)
 rw[←hR];clear hL hd ta H8 H9 t7 Hf hZ HF hM H7 HU Hp HT h5 Hn hw TI Hh;obtain⟨bb,Hl⟩:∃ bb,bb=w5.heap.size:=⟨_,rfl⟩
 rw[←Hl]at hC ⊢;clear Hl hR;have HX:=hid (And.intro h7 H5);refine Zeo w [bxR w.heap.size] sa sl sc l rows { m5 with bks:=List.replicate n fb0 } w.heap.size mb bb n tb _ _ _ (Zu rfl rfl (Za rfl (Za rfl (Za rfl (Za rfl (Za rfl (Zh _))))))) hC.out hE (fun k hk=>by rw[(List.mem_replicate.1 hk).2];exact⟨rfl,rfl⟩) ?_;clear hC;intro a1 w8 bks hf he hA Hk;obtain⟨u,ht,hu⟩:=Zq hf;obtain⟨g1,g2,s2,s3,s4,s5,g3⟩:=hf;have e2:=hu 2 _ s2;have e3:=hu 3 _ s3;have e4:=hu 4 _ s4;have e5:=hu 5 _ s5;rw[e2,e3,e4,e5]at ht;subst ht;clear hu g1 g2 g3 e2 s2 e3 s3 e4 s4 e5 s5;have hG:=hid he;have hF:=hid hA;have hH:=hid Hk;obtain⟨t3,HA,z0,z1,z2⟩:=info_parts Tryz.info3;have TI3:=hid (And.intro HA (And.intro z0 (And.intro z1 z2)));clear he hA Hk HA z0 z1 z2;go_upto_block 2 with (refine wpList_make_full _ rfl (.tmp 78) (.tmp 78) 22 rfl _ 3 t3 (.int .i64 0) 1 Tryz.underlying22 TI3.out.1 TI3.out.2.1 TI3.out.2.2.1 .i64 .i64 _ _ n rfl rfl rfl rfl (by rw[TI3.out.2.2.2];omega) ky (Nat.le_refl _) ?_;intro w9 hl hg;have hB:=Wb rfl kS hl hg;have hd:=hid hB;clear hl hg hB)
 have hQ:=zH (MSt w (exP w.heap.size w8.heap.size (List.replicate n 0)) mb bb tb (.slice sa sl sc) l n rows { m5 with bks:=bks } w9) (MSt.addP hG.out hd.out.1 (by have h:=hd.out.2;rw[show (List.replicate n (Value.int .i64 0).cells.toList).flatten=(List.replicate n (0:Int)).map (Value.int .i64) from by rw[List.map_replicate];exact We n _]at h;exact h) (Nat.le_refl _))
 have Hs:=hid (show PhI (List.replicate n 0) n n 0 { m5 with bks:=bks } from by
  refine⟨by simp,fun v hv=>?_,by rw[List.getElem?_replicate,if_pos kT],fun k hk p hp=>?_,fun j k v _ hk hv=>?_,fun k hk=>?_⟩
  ·rw[(List.mem_replicate.1 hv).2];omega
  ·rw[(hH.out k hk).1]at hp;cases hp
  ·rw[List.getElem?_replicate]at hv;split at hv
   ·rw[(hH.out k (List.mem_of_getElem? hk)).1];exact Option.some.inj hv
   ·cases hv
  ·rw[(hH.out k (List.mem_of_getElem? hk)).1];rfl)
 have Hu:=zH (Hd x 102 0 { m5 with bks:=bks }) ⟨hO.out.1,by have:=hO.out.2.1;show m5.next≤_;omega,hO.out.2.2.1,hO.out.2.2.2,fun k hk=>(hH.out k hk).2⟩;obtain⟨pb,HD⟩:∃ z,z=w8.heap.size:=⟨_,rfl⟩
 rw[←HD]at hQ ⊢;clear hd hG hH hO TI3 HD;refine ZdF w sa sl sc l rows { m5 with bks:=bks } w.heap.size mb bb n tb pb (List.replicate n 0) x _ _ _ (Zu rfl rfl (Za rfl (Za rfl (Za rfl (Za rfl (Za rfl (Za rfl (Zh _)))))))) hQ.out hE (by have:=HX.out;omega) hF.out Hs.out (fun j v hj hv=>by
  rw[List.getElem?_replicate]at hv;split at hv
  ·exact (Option.some.inj hv).symm
  ·cases hv) (Hu.out.more kT kT) ?_
 clear hQ hF Hs Hu;intro a1 w2 ph m hf he hA Hc HK;obtain⟨u,ht,hu⟩:=Zq hf;obtain⟨g1,g2,s2,s3,s4,s5,s7,g3⟩:=hf;have e2:=hu 2 _ s2;have e3:=hu 3 _ s3;have e4:=hu 4 _ s4;have e5:=hu 5 _ s5;have e7:=hu 7 _ s7;rw[e2,e3,e4,e5,e7]at ht;subst ht;clear hu g1 g2 g3 e2 s2 e3 s3 e4 s4 e5 s5 e7 s7;have hG:=hid he;have hF:=hid hA;have Hj:(Tryz.prog.info? 4).map (fun i=>(i.zero,i.size,i.bytes))=some (some (.bool false),1,1):=by kernel_rfl
 obtain⟨tbi,Hb,Ha,h9,h8⟩:=info_parts Hj;have TIB:=hid (And.intro Hb (And.intro Ha (And.intro h9 h8)));have Ht:=hid (Lp.start Hc HK kT kT);clear he hA Hc HK Hj Hb Ha h9 h8;go_upto_block 6 with (refine wpList_make_full _ rfl (.tmp 135) (.tmp 135) 144 rfl _ 4 tbi (.bool false) 1 Tryz.underlying144 TIB.out.1 TIB.out.2.1 TIB.out.2.2.1 .i64 .i64 _ _ n rfl rfl rfl rfl (by rw[TIB.out.2.2.2];omega) ky (Nat.le_refl _) ?_;intro w10 hl hg;have hB:=Wb rfl kS hl hg;have hd:=hid hB;clear hl hg hB)
 have hP:=zH (MSt w (exD w.heap.size pb w2.heap.size ph (dnL n 0)) mb bb tb (.slice sa sl sc) l n rows m w10) (MSt.addD hG.out hd.out.1 (by have h:=hd.out.2;rw[show (List.replicate n (Value.bool false).cells.toList).flatten=(dnL n 0).map Value.bool from by rw[←Zc7,List.map_replicate];exact We n _]at h;exact h) (Nat.le_refl _))
 obtain⟨db,HM⟩:∃ z,z=w2.heap.size:=⟨_,rfl⟩
 rw[←HM]at hP ⊢;clear hd hG TIB HM;refine ZcK w sa sl sc l rows m w.heap.size mb bb n tb pb db ph x _ _ _ (Zu rfl rfl (Za rfl (Za rfl (Za rfl (Za rfl (Za rfl (Za rfl (Za rfl (Zh _))))))))) hP.out hE te.out hF.out Ht.out ?_;clear hP hF Ht m;intro a1 w2 m hf he hA HI;obtain⟨u,ht,hu⟩:=Zq hf;obtain⟨g1,g2,s2,s3,s4,s5,s7,s11,g3⟩:=hf;have e2:=hu 2 _ s2;have e3:=hu 3 _ s3;have e4:=hu 4 _ s4;have e5:=hu 5 _ s5;have e7:=hu 7 _ s7;have e11:=hu 11 _ s11;rw[e2,e3,e4,e5,e7,e11]at ht;subst ht;clear hu g1 g2 g3 e2 s2 e3 s3 e4 s4 e5 s5 e7 s7 e11 s11;have hC:=hid he;have h6:=hid (Xk.start HI he.len hE.2 (by have:=HX.out;omega));clear he hA HI;go_upto_block 24 with fail
 refine ZdI w (exD w.heap.size pb db ph (dnL n n)) sa sl sc l rows m w.heap.size mb bb n tb pb ph x _ _ _ (Zu rfl rfl (Za rfl (Za rfl (Za rfl (Za rfl (Za rfl (Zh _))))))) hC.out hE (fun z hz=>by
  simp only[exD,List.mem_cons,List.not_mem_nil,or_false]at hz;rcases hz with rfl|rfl|rfl
  ·show (109:TypeId)≠141;decide
  ·show (3:TypeId)≠141;decide
  ·show (4:TypeId)≠141;decide) kQ h6.out ?_
 clear hC h6 m;intro a1 w2 m c hf he HL hc;obtain⟨u,ht,hu⟩:=Zq hf;obtain⟨g1,g2,s2,s3,s4,s7,g3⟩:=hf;have e2:=hu 2 _ s2;have e3:=hu 3 _ s3;have e4:=hu 4 _ s4;have e7:=hu 7 _ s7;rw[e2,e3,e4,e7]at ht;subst ht;clear hu g1 g2 g3 e2 s2 e3 s3 e4 s4 e7 s7;have hC:=hid he;have h6:=hid HL;have h0:=he.box;have Hm:=h0.cell 2;have tr:=h0.cell 3;have tm:=h0.lt;have hJ:HeapIs w2 w.heap.size #[.int .i64 0,.slice none 0 0] 109:=(he.boxes (bxR w.heap.size) kQ).1;have tj:=hJ.cell 0;have th:=hJ.cell 1;have tf:=hJ.lt;have tg:=hJ.frozen;have td:=hid hJ;clear he HL h0 hJ;go_wp2_with fail
 have HW:=(td.out.set 0 (.int .i64 m.params)).set 1 (.slice (some ⟨bb,0,none⟩) n n);try simp only[Exit.inBlock,Exit.then]
 refine bodyPost_ret (results_cell_row rfl _ _ w.heap.size 109 #[.int .i64 m.params,.slice (some ⟨bb,0,none⟩) n n] (0,0) _ rfl HW Tryz.underlying109 rfl kO) rfl ?_;have t:Turn (fun q=>q=w.heap.size) w2 ((w2.setCell ⟨w.heap.size,0,none⟩ (.int .i64 m.params)).setCell ⟨w.heap.size,1,none⟩ (.slice (some ⟨bb,0,none⟩) n n)):=((Turn.refl (fun q=>q=w.heap.size) w2).setCell (p:=⟨w.heap.size,0,none⟩) rfl _).setCell (p:=⟨w.heap.size,1,none⟩) rfl _;have hh:=hC.out.beside (ex':=[]) t (fun q _ e=>⟨bxR w.heap.size,by simp[exD],e.symm⟩) (fun z hz=>by cases hz);exact⟨⟨m.params,m.bks,.slice (some ⟨bb,0,none⟩) n n⟩,rfl,hh.fn,MadeF.of h6.out hh.len hE hc (by have:=HX.out;omega) hh.ok.good,hh.old,fun k hk=>⟨fun y hy q hq=>((hh.ok.each k hk).arg y hy).2 q hq |>.2,fun q hq=>((hh.ok.each k hk).term.2.1 q hq).2,fun q hq=>((hh.ok.each k hk).term.2.2 q hq).2⟩,fun k hk=>⟨(hh.ok.each k hk).phis,(hh.ok.each k hk).ins⟩,bb,n,rfl,hh.blkAt⟩
theorem ZcO (sv:Value) (l:List Int) (w:World) (hs:Zi w sv l) (ha:∀ q,sv.ownBlock=some q→q<w.heap.size) :
  Calls Tryz.prog 81 #[sv] w (fun e w'=>∃ f:FnV,e=.returned (fv f)∧FnIn w' f∧MadeF f∧Since w w'∧Zbm w' f):=
 (ZcP sv l w hs ha).mono fun e w' ⟨f,h1,h2,h3,h4,h5,_⟩=>⟨f,h1,h2,h3,h4,h5⟩
structure ZC where
 phis:List YY
 phv:Value
 ins:List MaV
 insv:Value
 fin:Yb
structure Vb where
 params:Int
 blocks:List ZC
 bv:Value
def mbcells (b:ZC):List Value:=[b.phv,b.insv,.int .i64 b.fin.op,.int .i64 b.fin.a,.int .i64 b.fin.b,b.fin.tov,.int .i32 b.fin.imm]
theorem JO (b:ZC):(mbcells b).length=7:=rfl
def mfv (f:Vb):Value:=.agg #[.int .i64 f.params,f.bv]
def WH (w:World) (x:MaV):Prop:=Zi w x.av x.m.args
theorem WH.keep (w w':World) (x:MaV) (h:WH w x) (s:Since w w'):WH w' x:=Zt.keep h s
def MBlkIn (w:World) (b:ZC):Prop:=RowIn fpcells 2 YD w b.phv b.phis∧RowIn Z9 8 WH w b.insv b.ins∧Zi w b.fin.tov b.fin.to
theorem MBlkIn.keep (w w':World) (b:ZC) (h:MBlkIn w b) (s:Since w w'):MBlkIn w' b:=⟨RowIn.keep YD.keep h.1 s,RowIn.keep WH.keep h.2.1 s,h.2.2.keep s⟩
def Vo (w:World) (f:Vb):Prop:=RowIn mbcells 7 MBlkIn w f.bv f.blocks
theorem Vo.keep {w w':World} {f : Vb} (h:Vo w f) (s:Since w w'):Vo w' f:=RowIn.keep MBlkIn.keep h s
structure JE (S:Nat→Prop) (w:World) (b:ZC):Prop where
 phv:Stays S w b.phv
 phs:∀ p∈b.phis,Stays S w p.inv
 insv:Stays S w b.insv
 args:∀ x∈b.ins,Stays S w x.av
 tov:Stays S w b.fin.tov
section
variable {S S' T:Nat→Prop} {w w':World} {b : ZC}
theorem JE.mono (h:JE S w b) (hS:∀ q,S' q→S q∨w.heap.size≤q) (hz:w.heap.size≤w'.heap.size):JE S' w' b:=
 ⟨h.phv.mono hS hz,fun p hp=>(h.phs p hp).mono hS hz,h.insv.mono hS hz,fun x hx=>(h.args x hx).mono hS hz,h.tov.mono hS hz⟩
theorem Stays.turns {v : Value} (h:Stays S w v) (hT:∀ q,q<w.heap.size→T q→S q):∀ q,v.ownBlock=some q→¬ T q:=fun q hq e=>(h q hq).1 (hT q (h q hq).2 e)
theorem MBlkIn.turn (h:MBlkIn w b) (st:JE S w b) (t:Turn T w w') (hT:∀ q,q<w.heap.size→T q→S q):MBlkIn w' b:=
 ⟨RowIn.turn h.1 t (st.phv.turns hT) fun p hp hi=>RowIn.turn (show RowIn prcells 2 (fun _ _=>True) w p.inv p.ins from hi) t ((st.phs p hp).turns hT) (fun _ _ h=>h),RowIn.turn h.2.1 t (st.insv.turns hT) fun x hx hi=>Zt.turn hi t ((st.args x hx).turns hT),h.2.2.turn t (st.tov.turns hT)⟩
theorem MBlkIn.grow (h:MBlkIn w b) (s:Since w w'):MBlkIn w' b:=MBlkIn.keep w w' b h s
end
theorem Qj {w : World} {b1 b2 s1 s2 n1 n2:Nat} {e1 e2:TypeId} {v1 v2:Value} {x1 x2:List Value} (h1:w.ownsRow b1 e1 s1 v1 n1 x1) (h2:w.ownsRow b2 e2 s2 v2 n2 x2) (hb:e1≠e2):∀ q,v1.ownBlock=some q→¬ v2.ownBlock=some q:=by
 intro q hq ha;obtain⟨_,⟨rfl,_⟩|⟨g1,c1,u1,rfl,_,k1,_⟩⟩:=h1
 ·cases hq
 ·obtain⟨_,⟨rfl,_⟩|⟨g2,c2,u2,rfl,_,k2,_⟩⟩:=h2
  ·cases ha
  ·have e:g1=q:=Option.some.inj hq;have e2:g2=q:=Option.some.inj ha;subst e;subst e2;rw[k1]at k2;simp only[Option.some.injEq,Obj.cells.injEq]at k2;exact hb k2.2.1
structure KI (n:Nat) (b:ZC):Prop where
 few:b.phis.length≤3
 phis:∀ p∈b.phis,(0≤p.dst∧p.dst<700)∧p.ins.length≤9∧∀ y∈p.ins,(0≤y.1∧y.1<(n:Int))∧0≤y.2∧y.2<700
 ins:∀ x∈b.ins,MGood x.m
 fin:Vc n b.fin
def Xn (l:List ZC):Nat:=(l.map fun b=>b.ins.length).sum
def Y0 (l:List Zr):Nat:=(l.map fun b=>b.ins.length).sum
theorem Jj {l : List Zr} {j : Nat} {b : Zr} (h:l[j]? = some b):Y0 (l.take (j+1))=Y0 (l.take j)+b.ins.length:=by
 unfold Y0;exact jO
theorem Ji (l:List Zr) (j:Nat):Y0 (l.take j)≤Y0 l:=by
 unfold Y0
 exact yU
structure QH (f:Vb):Prop where
 params:0≤f.params∧f.params≤4
 blocks:1≤f.blocks.length∧f.blocks.length≤9
 each:∀ b∈f.blocks,KI f.blocks.length b
 total:Xn f.blocks≤3600
structure FAt (xb FB foff n fbc b:Nat) (params:Int) (k:Zr) (w:World):Prop where
 box:HeapIs w xb #[.int .i64 params,.slice (some ⟨FB,foff,none⟩) n fbc] 109
 cell:∀ t,t<6→w.cell? ⟨FB,foff+b*6+t,none⟩=(fbcells k)[t]?
 lt:FB<w.heap.size
 blk:FBlkIn w k
theorem FAt.of {xb FB foff n fbc b:Nat} {params:Int} {fb:List Zr} {k : Zr} {w0 w:World} (hf:FnIn w0 ⟨params,fb,.slice (some ⟨FB,foff,none⟩) n fbc⟩) (hk:fb[b]? = some k) (s:Since w0 w) (hb:HeapIs w xb #[.int .i64 params,.slice (some ⟨FB,foff,none⟩) n fbc] 109):FAt xb FB foff n fbc b params k w:=by
 have h:=FnIn.keep hf s;rcases (show RowIn fbcells 6 FBlkIn w (.slice (some ⟨FB,foff,none⟩) n fbc) fb from h) with ⟨a,_,h2⟩|⟨B,off,cap,h1,_,_,h4,h5⟩
 ·rw[h2]at hk;cases hk
 ·cases h1
  exact⟨hb,fun t ht=>(h5 b k hk).1 t ht,h4,(h5 b k hk).2⟩
theorem FAt.keep {xb FB foff n fbc b:Nat} {params:Int} {k : Zr} {w w':World} (h:FAt xb FB foff n fbc b params k w) (s:Since w w'):FAt xb FB foff n fbc b params k w':=
 ⟨h.box.keep s,fun t ht=>by rw[s.cell (p:=⟨FB,foff+b*6+t,none⟩) h.lt];exact h.cell t ht,Nat.lt_of_lt_of_le h.lt s.size,FBlkIn.keep _ _ k h.blk s⟩
def OfT (B kb ob rb:Nat) (bkv:Value) (q:Nat):Prop:=q<B∨q=kb∨q=ob∨q=rb∨bkv.ownBlock=some q
structure OfS (w0:World) (xb ob rb kb n:Nat) (params:Int) (fbv sv:Value) (fb:List Zr) (b:Nat) (bks:List ZC) (bkv:Value) (w:World):Prop where
 box:HeapIs w xb #[.int .i64 params,fbv] 109
 out:HeapIs w ob #[.int .i64 params,bkv] 101
 res:HeapIs w rb #[.int .i64 0,.slice none 0 0] 101
 mkr:∃ (at_:Nat) (next:Int) (lvx:Value),HeapIs w kb #[sv,.int .i64 at_,.int .i64 next,lvx] 172∧at_≤4*Y0 (fb.take b)+2*b∧0≤next∧next≤700+4*Y0 (fb.take b)+b
 old:Since w0 w
 low:w0.heap.size≤kb∧w0.heap.size≤ob∧w0.heap.size≤rb∧w0.heap.size≤xb
 ne:ob≠rb
 row:OwnRow mbcells 7 135 w0.heap.size w bkv bks
 each:∀ x∈bks,MBlkIn w x∧JE (OfT w0.heap.size kb ob rb bkv) w x∧KI n x
 len:bks.length=b
 total:Xn bks≤5*Y0 (fb.take b)+2*b
theorem OfS.keep {w0 w w':World} {xb ob rb kb n b:Nat} {params:Int} {fbv sv bkv:Value} {fb:List Zr} {bks:List ZC} (h:OfS w0 xb ob rb kb n params fbv sv fb b bks bkv w) (s:Since w w'):OfS w0 xb ob rb kb n params fbv sv fb b bks bkv w':=by
 refine⟨h.box.keep s,h.out.keep s,h.res.keep s,?_,h.old.trans s,h.low,h.ne,h.row.keep s,fun x hx=>⟨(h.each x hx).1.grow s,(h.each x hx).2.1.mono (fun _ hq=>.inl hq) s.size,(h.each x hx).2.2⟩,h.len,h.total⟩
 obtain⟨a,nx,lv,h1,h2⟩:=h.mkr;exact⟨a,nx,lv,h1.keep s,h2⟩
structure PlNew (B:Nat) (S:Int) (w:World) (y:PlV):Prop where
 args:w.ownsRow B 3 1 y.av y.m.args.length (y.m.args.map (Value.int .i64))
 good:PGood S y.m
 src : -1≤y.src∧y.src≤5000
theorem PlNew.keep {B : Nat} {S : Int} {w w':World} {y : PlV} (h:PlNew B S w y) (s:Since w w'):PlNew B S w' y:=⟨Zs h.args s,h.good,h.src⟩
theorem PlNew.base {B B':Nat} {S : Int} {w : World} {y : PlV} (h:PlNew B S w y) (hb:B'≤B):PlNew B' S w y:=by
 refine⟨?_,h.good,h.src⟩;obtain⟨h0,h1|⟨g,c,u,h1,h2,h3⟩⟩:=h.args
 ·exact⟨h0,.inl h1⟩
 ·exact⟨h0,.inr ⟨g,c,u,h1,Nat.le_trans hb h2,h3⟩⟩
theorem PlNew.one {B : Nat} {S : Int} {w : World} {y : PlV} (h:PlNew B S w y):y.av.oneCell'=true:=by
 obtain⟨a,c,e⟩:=Zf h.args;rw[e];rfl
theorem PlNew.laid {B : Nat} {S op reg n:Int} {w : World} (ho:op=30∨op=31) (hr:0≤reg∧reg<4) (hn:0≤n∧n<S) (hS:S≤16384):PlNew B S w (Yr op reg n):=by
 have ha:(Vj op reg n).args=[]:=by unfold Vj;split<;>rfl
 refine⟨?_,Jd ho hr hn hS,by show (-1:Int)≤-1∧(-1:Int)≤5000;decide⟩;show w.ownsRow B 3 1 (.slice none 0 0) (Vj op reg n).args.length ((Vj op reg n).args.map (Value.int .i64))
 rw[ha];exact⟨rfl,.inl ⟨rfl,rfl⟩⟩
def GoodRow (B:Nat) (S:Int) (k:Nat) (v:Value) (w:World):Prop:=∃ xs:List PlV,xs.length≤k∧RowIn plcells 9 (fun _ _=>True) w v xs∧∀ y∈xs,PlNew B S w y
theorem GoodRow.stable (B:Nat) (S:Int) (k:Nat):ZM (GoodRow B S k):=fun v w w' ⟨xs,h1,h2,h3⟩ s=>⟨xs,h1,RowIn.keep (fun _ _ _ _ _=>trivial) h2 s,fun y hy=>(h3 y hy).keep s⟩
theorem Wo {w : World} {q : Nat} {T : TypeId} (xs:List PlV) (cs:Array Value) (hc:cs=(xs.flatMap plcells).toArray) (h:HeapIs w q cs T) (k:Nat) (hk:k=xs.length) (hm:xs.length≤1000):RowIn plcells 9 (fun _ _=>True) w (.slice (some ⟨q,0,none⟩) k k) xs:=by
 subst hk;subst hc;refine .inr ⟨q,0,xs.length,rfl,Nat.le_refl _,by unfold maxLen;omega,h.lt,fun j x hj=>⟨fun t ht=>?_,trivial⟩⟩
 have h1:=h.cell (j*9+t);rw[List.getElem?_toArray,XQ plcells 9 ZE xs j t x hj ht]at h1;rw[show 0+j*9+t=j*9+t from by omega];exact h1
theorem W4 (reg n:Int):plcells (Yr 30 reg n)=[.int .i64 30,.int .i64 reg,.int .i64 0,.int .i64 0,.int .i64 0,.int .i64 0,.int .i32 n,.slice none 0 0,.int .i64 (-1)]:=by
 have h:Vj 30 reg n={ op:=30,d:=reg,e:=0,a:=0,b:=0,c:=0,imm:=n,args:=[] }:=if_neg kS;unfold Yr plcells;dsimp only;rw[h]
theorem W0 (reg n:Int):plcells (Yr 31 reg n)=[.int .i64 31,.int .i64 0,.int .i64 0,.int .i64 reg,.int .i64 0,.int .i64 0,.int .i32 n,.slice none 0 0,.int .i64 (-1)]:=by
 have h:Vj 31 reg n={ op:=31,d:=0,e:=0,a:=reg,b:=0,c:=0,imm:=n,args:=[] }:=if_pos rfl;unfold Yr plcells;dsimp only;rw[h]
theorem Qi (x:PlV):plw x=.agg (plcells x).toArray:=rfl
theorem Wd (reg n:Int) (w:World) (hr:0≤reg∧reg<4) (hn:0≤n∧n<100000) :
  Calls Tryz.prog 10 #[.int .i64 30,.int .i64 reg,.int .i64 n] w (fun e w'=>e=.returned (.agg #[.int .i64 30,.int .i64 reg,.int .i64 0,.int .i64 0,.int .i64 0,.int .i64 0,.int .i32 n,.slice none 0 0,.int .i64 (-1)])∧Since w w'):=
 (Q8 30 reg n w (.inl rfl) hr hn).mono fun e w' h=>⟨h.1.trans (by rw[Qi,W4]),h.2⟩
theorem Wc (reg n:Int) (w:World) (hr:0≤reg∧reg<4) (hn:0≤n∧n<100000) :
  Calls Tryz.prog 10 #[.int .i64 31,.int .i64 reg,.int .i64 n] w (fun e w'=>e=.returned (.agg #[.int .i64 31,.int .i64 0,.int .i64 0,.int .i64 reg,.int .i64 0,.int .i64 0,.int .i32 n,.slice none 0 0,.int .i64 (-1)])∧Since w w'):=
 (Q8 31 reg n w (.inr rfl) hr hn).mono fun e w' h=>⟨h.1.trans (by rw[Qi,W0]),h.2⟩
theorem Zdj {w : World} {q : Nat} {T : TypeId} {reg n:Int} (h:HeapIs w q #[.int .i64 30,.int .i64 reg,.int .i64 0,.int .i64 0,.int .i64 0,.int .i64 0,.int .i32 n,.slice none 0 0,.int .i64 (-1)] T):RowIn plcells 9 (fun _ _=>True) w (.slice (some ⟨q,0,none⟩) 1 1) [Yr 30 reg n]:=
 Wo [Yr 30 reg n] _ (by rw[List.flatMap_cons,List.flatMap_nil,List.append_nil,W4]) h 1 rfl (by show 1≤1000;omega)
theorem Zdi {w : World} {q : Nat} {T : TypeId} {reg n:Int} (h:HeapIs w q #[.int .i64 31,.int .i64 0,.int .i64 0,.int .i64 reg,.int .i64 0,.int .i64 0,.int .i32 n,.slice none 0 0,.int .i64 (-1)] T):RowIn plcells 9 (fun _ _=>True) w (.slice (some ⟨q,0,none⟩) 1 1) [Yr 31 reg n]:=
 Wo [Yr 31 reg n] _ (by rw[List.flatMap_cons,List.flatMap_nil,List.append_nil,W0]) h 1 rfl (by show 1≤1000;omega)
theorem Zaz {w : World} {q : Nat} {T : TypeId} {reg n reg2 n2:Int} (h:HeapIs w q #[.int .i64 30,.int .i64 reg,.int .i64 0,.int .i64 0,.int .i64 0,.int .i64 0,.int .i32 n,.slice none 0 0,.int .i64 (-1),.int .i64 31,.int .i64 0,.int .i64 0,.int .i64 reg2,.int .i64 0,.int .i64 0,.int .i32 n2,.slice none 0 0,.int .i64 (-1)] T):RowIn plcells 9 (fun _ _=>True) w (.slice (some ⟨q,0,none⟩) 2 2) [Yr 30 reg n,Yr 31 reg2 n2]:=
 Wo [Yr 30 reg n,Yr 31 reg2 n2] _ (by rw[List.flatMap_cons,List.flatMap_cons,List.flatMap_nil,List.append_nil,W4,W0];rfl) h 2 rfl (by show 2≤1000;omega)
theorem Z8 {α:Type} {P : Program} {base:Nat} {w : World} {ops:Array Oper} {rest:List Oper} {o : Oper} {a : Act} {Q : Exit→Act→World→Prop} (f:α→List Value) (sz:Nat) (hf:∀ x,(f x).length=sz) (hr:0<sz) (hg:o.guard=none) (s x:Operand) (t:TypeId)
  (ho:o.op=.call { callee:=.builtin .append,args:=#[s,x],argTypes:=#[t,t] })
  (e:TypeId) (z:Value) (bytes:Nat) (ht:P.underlying t=some (.slice e)) (hh:(P.info? e).map (fun i=>(i.zero,i.size,i.bytes))=some (some z,sz,bytes)) (hz:z.cells.size=sz) (hA:bytes≤1000)
  (v xv:Value) (l ys:List α) (hs:a.eval s=v) (hx:a.eval x=xv) (hb:OwnRow f sz e base w v l) (hy:JB w xv ys.length (ys.flatMap f)) (h1:∀ u∈ys.flatMap f,u.oneCell'=true)
  (he:l.length+ys.length≤1000000) (hd:base≤w.heap.size)
  (h:∀ v' w',OwnRow f sz e base w' v' (l++ys)→Turn (fun k=>v.ownBlock=some k) w w'→Z6 w v v'→wpList P ops Q rest (a.put o.dst v') w'):wpList P ops Q (o::rest) a w:=by
 obtain⟨i,hi,hp,hl,hk⟩:=info_parts hh;have hw:(l.length+ys.length)*bytes≤140737488355328:=by
  have:=Nat.mul_le_mul he hA;omega
 have hc:∀ {n : Nat} {v':Value} {w':World},n=l.length+ys.length→w'.ownsRow base e sz v' n (l.flatMap f++ys.flatMap f)→OwnRow f sz e base w' v' (l++ys):=fun {n v' w'} hn h2=>by
  unfold OwnRow;rw[List.length_append,List.flatMap_append,←hn];exact h2
 rcases hy with ⟨ad,hv,hm,hB⟩|⟨ad,c,hv,hj⟩
 ·obtain rfl:ys=[]:=List.length_eq_zero_iff.1 hm
  cases ad with
  | none=>exact wpList_append_own_none hg s x t ho base e i sz ht hi v _ _ hs hb (hx.trans hv) (h v w (by rw[List.append_nil];exact hb) (Turn.refl _ _) fun q hq=>.inl hq)
  | some ad =>
   refine Yz hg s x t ho base e i z sz bytes ht hi hp hl hk hz hr v _ _ hs hb ad 0 0 [] (hx.trans hv) kU (fun j u hu=>by cases hu) (fun u hu=>by cases hu) (by unfold maxLen;simp at he;omega) (by simpa using hw) hd ?_;intro v' w' ha t h4;exact h v' w' (hc rfl kJ) t h4
 ·refine Yz hg s x t ho base e i z sz bytes ht hi hp hl hk hz hr v _ _ hs hb ad ys.length c (ys.flatMap f) (hx.trans hv) (Vz f sz hf ys) hj h1 ky hw hd ?_;intro v' w' ha t h4;exact h v' w' (hc rfl ha) t h4
theorem Wt {B : Nat} {S : Int} {w : World} {xs:List PlV} (h:∀ y∈xs,PlNew B S w y):∀ u∈xs.flatMap plcells,u.oneCell'=true:=by
 intro u hu;obtain⟨y,hy,ha⟩:=List.mem_flatMap.1 hu;have:=(h y hy).one;simp only[plcells,List.mem_cons,List.not_mem_nil,or_false]at ha;rcases ha with rfl|rfl|rfl|rfl|rfl|rfl|rfl|rfl|rfl<;>first|rfl|exact this
theorem PlNew.turn {B B2:Nat} {S : Int} {w w':World} {y : PlV} {v : Value} {n : Nat} {xs:List Value} (h:PlNew B S w y) (ha:w.ownsRow B2 38 9 v n xs) (t:Turn (fun q=>v.ownBlock=some q) w w'):PlNew B S w' y:=
 ⟨Zj h.args t fun q hq e=>Qj h.args ha kS q hq e,h.good,h.src⟩
end Go.Proofs.YtimpddecdodddaaGreat
