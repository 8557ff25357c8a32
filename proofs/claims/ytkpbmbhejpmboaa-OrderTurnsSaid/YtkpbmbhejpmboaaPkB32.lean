/- jacquardref03.Made: the phis of all blocks. jacquardref03.Made. Machine code of virtual registers as data in memory, and what jacquardref07.Of has there. jacquardref07.Of: its code in pieces, and its frame. -/
import Derived.Test.YtkpbmbhejpmboaaPkB10
import Derived.Test.YtkpbmbhejpmboaaPkB20
import Derived.Test.YtkpbmbhejpmboaaPkB25
import Derived.Test.YtkpbmbhejpmboaaPkB27
import Derived.Test.YtkpbmbhejpmboaaPkB28
import Derived.Test.YtkpbmbhejpmboaaPkB31
namespace Go.Proofs.Ytkpbmbhejpmboaa
open Go.RowKit
set_option linter.unusedVariables false
set_option maxHeartbeats 8000000 in
set_option maxRecDepth 1000000 in
theorem mk_last (w:World) (ex:List Bx) (sa:Option Addr) (sl sc:Nat) (l:List Int) (rows:List (Value × List Int)) (m:MkSt) (r mb bb n tb pb:Nat) (ph:List Int) (x:Int) (a0:Act) (w1:World) (Q0:Exit→Act→World→Prop) (hfr:Fr [(2,.pointer (some ⟨r,0,none⟩)),(3,.pointer (some ⟨mb,0,none⟩)),(4,.int .i64 n),(7,.slice (some ⟨pb,0,none⟩) n n),(25,.int .i64 (1:Nat))] a0)
  (hst:MSt w ex mb bb tb (.slice sa sl sc) l n rows m w1) (hn9:1≤n∧n≤9) (hE:∀ z∈ex,z.ty≠150) (hphx:bxP pb ph∈ex) (hfs:FinS x ph n 0 m)
  (hQ:∀ a1 w2 (m:MkSt) (c:Nat),Fr [(2,.pointer (some ⟨r,0,none⟩)),(3,.pointer (some ⟨mb,0,none⟩)),(4,.int .i64 n),(7,.slice (some ⟨pb,0,none⟩) n n)] a1→MSt w ex mb bb tb (.slice sa sl sc) l n rows m w2→FinS x ph n c m→c≤216→Q0 .normal a1 w2):Code.wp Try.prog (mkCode [1,1,1,1,1,1,1,1,1,1,1,1,0,1]) Q0 a0 w1:=by
 obtain⟨u,ha0,hu⟩:=frame_ex hfr
 obtain⟨g1,g2,s2,s3,s4,s7,s25,g3⟩:=hfr
 have e2:=hu 2 _ s2
 have e3:=hu 3 _ s3
 have e4:=hu 4 _ s4
 have e7:=hu 7 _ s7
 have e25:=hu 25 _ s25
 rw[e2,e3,e4,e7,e25]at ha0
 subst ha0
 clear hu g1 g2 g3 e2 s2 e3 s3 e4 s4 e7 s7 e25 s25
 conv=>arg 2;whnf
 have HQ:=Lib.hid hQ
 have HE:=Lib.hid hE
 have HFS:=Lib.hid hfs
 have HPX:=Lib.hid hphx
 clear hQ hE hfs hphx
 go_wp2_with fail
 refine wp_loop_fr (fun t ac wr=>∃ (b:Nat) (m:MkSt),t=n-b∧(1≤b∧b≤n)∧Fr [(2,.pointer (some ⟨r,0,none⟩)),(3,.pointer (some ⟨mb,0,none⟩)),(4,.int .i64 n),(7,.slice (some ⟨pb,0,none⟩) n n),(25,.int .i64 b)] ac∧MSt w ex mb bb tb (.slice sa sl sc) l n rows m wr∧∃ c,c≤27*(b-1)∧FinS x ph n c m) (n-1) ⟨1,m,rfl,⟨Nat.le_refl _,hn9.1⟩,(fr_mk rfl rfl (sl_cons rfl (sl_cons rfl (sl_cons rfl (sl_cons rfl (sl_cons rfl (sl_nil _))))))),hst,0,Nat.zero_le _,HFS.out⟩ ?_
 ·clear hst HFS m
  intro t a1 wr K hJ hK
  have HK9:=Lib.hid hK
  clear hK
  obtain⟨b,m,rfl,⟨hb1,hbn⟩,hf,hst,c,hc,hfs⟩:=hJ
  obtain⟨u,ha0,hu⟩:=frame_ex hf
  obtain⟨g1,g2,s2,s3,s4,s7,s25,g3⟩:=hf
  have e2:=hu 2 _ s2
  have e3:=hu 3 _ s3
  have e4:=hu 4 _ s4
  have e7:=hu 7 _ s7
  have e25:=hu 25 _ s25
  rw[e2,e3,e4,e7,e25]at ha0
  subst ha0
  clear hu g1 g2 g3 e2 s2 e3 s3 e4 s4 e7 s7 e25 s25
  have HST:=Lib.hid hst
  have HFS:=Lib.hid hfs
  by_cases hlt:b<n
  ·have hbx:=hst.box
   have hb2:=hbx.cell 2
   have hb3:=hbx.cell 3
   have hl3:=hbx.lt
   have HPR:=Lib.hid (preds_any m.params m.bks (.slice (some ⟨bb,0,none⟩) n n) wr hst.fn.tos (by rw[hst.len];omega) b)
   clear hst hfs hbx
   go_wp2_with fail
   refine HPR.out.mono ?_
   rintro e w2 ⟨pv,ps,rfl,hown,hs2,hpl,hpg⟩
   rw[HST.out.len]at hpl hpg
   obtain⟨pa,pc,hpv⟩:=own_shape hown
   obtain⟨pl,hpl2⟩:∃ z,ps.length=z:=⟨_,rfl⟩
   obtain⟨pbx,hpb,hpx⟩:=bv_of hown
   rw[hpl2]at hpv hpl
   subst hpv
   obtain⟨v,hv,hv0,hv3⟩:∃ v,ph[b]? = some v∧0≤v∧v≤3:=by
    obtain⟨v,hv⟩:∃ v,ph[b]? = some v:=⟨_,List.getElem?_eq_getElem (by rw[HFS.out.phs.1];exact hlt)⟩
    exact⟨v,hv,HFS.out.phs.2.1 v (List.mem_of_getElem? hv)⟩
   obtain⟨vn,rfl⟩:=Int.eq_ofNat_of_zero_le hv0
   have HV:=Lib.hid hv
   have HPB:=Lib.hid hpb
   have HPG:=Lib.hid hpg
   have HPL:=Lib.hid hpl2
   have HTY:=Lib.hid (show ∀ z∈ex++pbx,z.ty≠150 from fun z hz=>by
    rcases List.mem_append.1 hz with hz|hz
    ·exact HE.out z hz
    ·rw[(hpx z hz).2];decide)
   have HST2:=Lib.hid (HST.out.beside (ex':=ex++pbx) (T:=fun _=>False) (Turn.since hs2) (fun q _ e=>e.elim) fun z hz=>by
    rcases List.mem_append.1 hz with hz|hz
    ·exact⟨(HST.out.boxes z hz).1.keep hs2,.inl ⟨z,hz,rfl⟩⟩
    ·exact⟨(hpx z hz).1.1,.inr (hpx z hz).1.2⟩)
   clear hown hs2 hpg hpb hpx hpl2 hv hb2 hb3 hl3 HPR
   go_upto_block 26 with fail
   refine mk_phis w (ex++pbx) pbx sa pa sl sc pc l ps rows m r mb bb n tb pb b pl vn c ph x _ _ _ (fr_mk rfl rfl (sl_cons rfl (sl_cons rfl (sl_cons rfl (sl_cons rfl (sl_cons rfl (sl_cons rfl (sl_cons rfl (sl_nil _))))))))) HST2.out hn9 hlt HTY.out HPB.out (fun z hz=>List.mem_append_right _ hz) HPL.out (by omega) HPG.out (List.mem_append_left _ HPX.out) HV.out (by omega) HFS.out (by omega) ?_
   intro a1 w3 m3 hf hst3 hfs3
   obtain⟨u,ha0,hu⟩:=frame_ex hf
   obtain⟨g1,g2,s2,s3,s4,s7,s25,s26,g3⟩:=hf
   have e2:=hu 2 _ s2
   have e3:=hu 3 _ s3
   have e4:=hu 4 _ s4
   have e7:=hu 7 _ s7
   have e25:=hu 25 _ s25
   have e26:=hu 26 _ s26
   rw[e2,e3,e4,e7,e25,e26]at ha0
   subst ha0
   clear hu g1 g2 g3 e2 s2 e3 s3 e4 s4 e7 s7 e25 s25 e26 s26
   have HST3:=Lib.hid (hst3.beside (ex':=ex) (T:=fun _=>False) (Turn.refl _ _) (fun q _ e=>e.elim) fun z hz=>⟨(hst3.boxes z (List.mem_append_left _ hz)).1,.inl ⟨z,List.mem_append_left _ hz,rfl⟩⟩)
   have HFS3:=Lib.hid hfs3
   have hm27:pl*vn≤27:=Nat.mul_le_mul (show pl≤9 by omega) (show vn≤3 by omega)
   clear hst3 hfs3
   go_wp2_with fail
   exact HK9.out (n-(b+1)) _ _ (by omega) ⟨b+1,m3,rfl,⟨by omega,by omega⟩,(fr_mk rfl rfl (sl_cons rfl (sl_cons rfl (sl_cons rfl (sl_cons rfl (sl_cons rfl (sl_nil _))))))),HST3.out,_,by omega,HFS3.out⟩
  ·obtain rfl:n=b:=by omega
   clear hst hfs
   go_wp2_with fail
   exact HQ.out _ _ m c (fr_mk rfl rfl (sl_cons rfl (sl_cons rfl (sl_cons rfl (sl_cons rfl (sl_nil _)))))) HST.out HFS.out (by omega)
structure MadeF (f:FnV):Prop where
 params:0≤f.params∧f.params≤4
 blocks:1≤f.blocks.length∧f.blocks.length≤9
 head:∀ k,f.blocks[0]? = some k→k.phis=[]
 phis:∀ k∈f.blocks,k.phis.length≤3∧∀ p∈k.phis,(0≤p.dst∧p.dst<700)∧p.ins.length≤9∧∀ y∈p.ins,(0≤y.1∧y.1<(f.blocks.length:Int))∧0≤y.2∧y.2<700
 ins:∀ k∈f.blocks,∀ x∈k.ins,InsGood 700 x
 total:(f.blocks.map fun b=>b.ins.length).sum≤700
 terms:∀ k∈f.blocks,TermGood 700 f.blocks.length k.term
def FnLow (w:World) (f:FnV):Prop:=∀ k∈f.blocks,(∀ x∈k.ins,∀ q,x.av.ownBlock=some q→q<w.heap.size)∧(∀ q,k.term.argsv.ownBlock=some q→q<w.heap.size)∧∀ q,k.term.tov.ownBlock=some q→q<w.heap.size
theorem MadeF.of {x : Int} {ph:List Int} {n c:Nat} {m : MkSt} {bv:Value} (h:FinS x ph n c m) (hl:m.bks.length=n) (hn:1≤n∧n≤9) (hc:c≤216) (hx:0≤x∧x≤4) (hg:MkGood m):MadeF ⟨m.params,m.bks,bv⟩:=by
 have ht:=h.total
 have hnx:=h.next
 have hp:m.params=x:=h.params
 refine⟨by show 0≤m.params∧m.params≤4;omega,by show 1≤m.bks.length∧m.bks.length≤9;omega,fun k hk=>?_,fun k hk=>⟨?_,fun p hp=>?_⟩,fun k hk y hy=>(hg.ins k hk y hy).mono (by omega),?_,fun k hk=>?_⟩
 ·exact List.length_eq_zero_iff.1 (by have:=h.cnt 0 k 0 hk h.phs.2.2;omega)
 ·obtain⟨j,hj⟩:=List.getElem?_of_mem hk
  have hj2:=(List.getElem?_eq_some_iff.1 hj).1
  obtain⟨v,hv⟩:∃ v,ph[j]? = some v:=⟨_,List.getElem?_eq_getElem (by rw[h.phs.1];replace hj2:j<m.bks.length:=hj2;omega)⟩
  have h1:=h.cnt j k v hj hv
  have h2:=h.phs.2.1 v (List.mem_of_getElem? hv)
  omega
 ·have h1:=h.phi k hk p hp
  rw[show (⟨m.params,m.bks,bv⟩:FnV).blocks.length=n from hl]
  exact h1
 ·show m.total≤700
  omega
 ·rw[show (⟨m.params,m.bks,bv⟩:FnV).blocks.length=n from hl]
  exact h.terms k hk
set_option maxHeartbeats 16000000 in
set_option maxRecDepth 100000 in
theorem made_any (sv:Value) (l:List Int) (w:World) (hs:Ints w sv l) (hsv:∀ q,sv.ownBlock=some q→q<w.heap.size) :
  Calls Try.prog 94 #[sv] w (fun e w'=>∃ f:FnV,e=.returned (fv f)∧FnIn w' f∧MadeF f∧Since w w'∧FnLow w' f):=by
 obtain⟨sa,sc,hv⟩:=nums_lenI hs
 obtain⟨sl,hsl⟩:∃ x,l.length=x:=⟨_,rfl⟩
 rw[hsl]at hv
 subst hv
 have HS:=Lib.hid hs
 have HSV:=Lib.hid hsv
 clear hs hsl
 go_enter Try.func94,Try.ntmps94
 go_wp2_with fail
 obtain⟨mb,hmb⟩:∃ x,x=w.heap.size+1:=⟨_,rfl⟩
 obtain⟨w1,hw1⟩:∃ x,x=((w.alloc (.cells #[.int .i64 0,.slice none 0 0] 120)).alloc (.cells #[.slice sa sl sc,.int .i64 0,.int .i64 0,.slice none 0 0,.int .i64 0,.slice none 0 0] 122)):=⟨_,rfl⟩
 have HR1:=Lib.hid (show HeapIs w1 w.heap.size #[.int .i64 0,.slice none 0 0] 120 from by rw[hw1];exact (HeapIs.new _ _ _).keep ((Since.refl _).alloc _))
 have HS1:=Lib.hid (show Since w w1 from by rw[hw1];exact ((Since.refl _).alloc _).alloc _)
 have H1:=Lib.hid (show MkOk (fun q=>q=w.heap.size) mb (.slice none 0 0) (.slice sa sl sc) l mk0 w1 from by
  have hz:(w.alloc (.cells #[.int .i64 0,.slice none 0 0] 120)).heap.size=w.heap.size+1:=by simp
  have h:=mk_new (C:=fun q=>q=w.heap.size) (w:=w.alloc (.cells #[.int .i64 0,.slice none 0 0] 120)) (HS.out.keep ((Since.refl _).alloc _)) (fun q hq=>by have:=HSV.out q hq;omega) (fun q hq=>⟨by omega,fun e=>by have:=HSV.out q e;omega⟩) (HeapIs.new _ #[.slice sa sl sc,.int .i64 0,.int .i64 0,.slice none 0 0,.int .i64 0,.slice none 0 0] _)
  rw[hz]at h
  rw[hw1,hmb]
  exact h)
 rw[←hw1,←hmb]
 have HMB:=Lib.hid hmb
 clear hw1 hmb
 refine (mk_take H1.out 5 (by decide) (by decide)).mono ?_
 rintro e w2 ⟨m2,⟨x,rfl,⟨hx0,hx1⟩,hm2⟩,h2,mv2⟩
 have hm:HeapIs w2 mb #[.slice sa sl sc,.int .i64 m2.at_,.int .i64 m2.params,.slice none 0 0,.int .i64 m2.next,m2.livev] 122:=h2.made
 have hm3:HeapIs ((w2.setCell ⟨mb,2,none⟩ (.int .i64 x)).setCell ⟨mb,4,none⟩ (.int .i64 x)) mb #[.slice sa sl sc,.int .i64 m2.at_,.int .i64 x,.slice none 0 0,.int .i64 x,m2.livev] 122:=(hm.set 2 (.int .i64 x)).set 4 (.int .i64 x)
 have t3:Turn (fun q=>q=mb) w2 ((w2.setCell ⟨mb,2,none⟩ (.int .i64 x)).setCell ⟨mb,4,none⟩ (.int .i64 x)):=((Turn.refl (fun q=>q=mb) w2).setCell (p:=⟨mb,2,none⟩) rfl _).setCell (p:=⟨mb,4,none⟩) rfl _
 have H3:=Lib.hid (h2.setHead (p:=x) (next':=x) hm3 t3 (by rw[hm2];exact hx0) ⟨hx0,by omega,Int.le_refl _⟩)
 have hc2:=hm.cell 2
 have hc4:=hm.cell 4
 have hlm:=hm.lt
 have hfm:=hm.frozen
 have ha2:m2.at_=1:=by rw[hm2];rfl
 have hb2:m2.bks=[]∧m2.livev=.slice none 0 0∧m2.live=[]:=by rw[hm2];exact⟨rfl,rfl,rfl⟩
 have HA2:=Lib.hid (And.intro ha2 hb2)
 have HSN3:=Lib.hid (show Since w ((w2.setCell ⟨mb,2,none⟩ (.int .i64 x)).setCell ⟨mb,4,none⟩ (.int .i64 x)) from t3.toSince (mv2.turn.toSince HS1.out fun k hk e=>by have h2:=own_mk0 e;have:=HMB.out;omega) fun k hk e=>by have:=HMB.out;omega)
 have HR3:=Lib.hid ((HR1.out.turn mv2.turn (fun ho=>(H1.out.aside w.heap.size rfl).2 ho)).turn t3 (by have:=HMB.out;omega))
 clear hm hm3 t3 hm2 h2 mv2 ha2 hb2
 go_wp2_with fail
 obtain⟨w3,hw3⟩:∃ y,y=((w2.setCell ⟨mb,2,none⟩ (.int .i64 x)).setCell ⟨mb,4,none⟩ (.int .i64 x)):=⟨_,rfl⟩
 rw[←hw3]at H3 HR3 HSN3 ⊢
 clear hw3
 refine (mk_take H3.out 9 (by decide) (by show m2.at_≤_;have:=HA2.out.1;omega)).mono ?_
 rintro e w4 ⟨m4,⟨y,rfl,⟨hy0,hy1⟩,hm4⟩,h4,mv4⟩
 have ha4:m4.at_=2:=by rw[hm4];show m2.at_+1=2;rw[HA2.out.1]
 have hb4:m4.bks=[]:=by rw[hm4];exact HA2.out.2.1
 have hn4:m4.next=x∧m4.params=x∧m4.livev=.slice none 0 0∧m4.live=[]:=by rw[hm4];exact⟨rfl,rfl,HA2.out.2.2.1,HA2.out.2.2.2⟩
 have H4:=Lib.hid h4
 have HSN4:=Lib.hid (show Since w w4 from mv4.turn.toSince HSN3.out fun k hk e=>by have h2:=own_none (m:={ m2 with params:=x,next:=x }) HA2.out.2.2.1 HA2.out.2.1 e;have:=HMB.out;omega)
 have HR4:=Lib.hid (HR3.out.turn mv4.turn (fun ho=>(H3.out.aside w.heap.size rfl).2 ho))
 have HM4:=Lib.hid (show m4.at_=2∧m4.bks=[]∧(m4.next=x∧m4.params=x)∧m4.livev=.slice none 0 0∧m4.live=[] from⟨ha4,hb4,⟨hn4.1,hn4.2.1⟩,hn4.2.2⟩)
 have HS4:=Lib.hid (show w.heap.size<w4.heap.size from by have:=HR4.out.lt;exact this)
 clear h4 mv4 hm4 ha4 hb4 hn4 H3 HR3 H1 HR1
 go_wp2_with fail
 obtain⟨n,hn⟩:∃ n:Nat,1+y=(n:Int):=⟨(1+y).toNat,by omega⟩
 have hn9:1≤n∧n≤9:=by omega
 rw[hn]
 clear hn hy0 hy1
 refine (mk_targets H4.out (by have:=HM4.out.1;omega) n hn9).mono ?_
 rintro e w5 ⟨tb,rows,m5,a,rfl,hT,ha,hch⟩
 have HT:=Lib.hid hT
 have HCH:=Lib.hid hch
 have HS5:=Lib.hid (show Since w w5 from HT.out.mv.turn.toSince HSN4.out fun k hk e=>by have h2:=own_none HM4.out.2.2.2.1 HM4.out.2.1 e;have:=HMB.out;omega)
 have HR5:=Lib.hid (HR4.out.turn hT.mv.turn (fun ho=>(H4.out.aside w.heap.size rfl).2 ho))
 clear hT hch H4 HR4
 have hinf:(Try.prog.info? 178).map (fun i=>(i.zero,i.size,i.bytes))=some (some (.agg #[.slice none 0 0,.slice none 0 0,.int .i64 0,.slice none 0 0,.slice none 0 0,.int .i32 0]),6,112):=by kernel_rfl
 obtain⟨ti,hti,hz0,hz1,hz2⟩:=info_parts hinf
 have TI:=Lib.hid (And.intro hti (And.intro hz0 (And.intro hz1 hz2)))
 have hmb5:HeapIs w5 mb #[.slice sa sl sc,.int .i64 m5.at_,.int .i64 m5.params,.slice none 0 0,.int .i64 m5.next,m5.livev] 122:=HT.out.ok.made
 have HMB5:=Lib.hid hmb5
 clear hinf hti hz0 hz1 hz2 hmb5
 go_upto_block 0 with (refine wpList_make_full _ rfl (.tmp 55) (.tmp 55) 118 rfl w5.heap.size 178 ti (.agg #[.slice none 0 0,.slice none 0 0,.int .i64 0,.slice none 0 0,.slice none 0 0,.int .i32 0]) 6 Try.underlying118 TI.out.1 TI.out.2.1 TI.out.2.2.1 .i64 .i64 _ _ n rfl rfl rfl rfl (by rw[TI.out.2.2.2];omega) (by unfold maxLen;omega) (Nat.le_refl _) ?_;intro w6 hown hgrow;have hbk:=made_block rfl (by decide) hown hgrow;have HBK:=Lib.hid hbk;have hmb6:=HMB5.out.keep hbk.1;have hc3:=hmb6.cell 3;have hl6:=hmb6.lt;have hf6:=hmb6.frozen;clear hmb6 hbk hown hgrow)
 obtain⟨w7,hw7⟩:∃ y,y=w6.setCell ⟨mb,3,none⟩ (.slice (some ⟨w5.heap.size,0,none⟩) n n):=⟨_,rfl⟩
 have t7:Turn (fun q=>q=mb) w6 w7:=by rw[hw7];exact (Turn.refl (fun q=>q=mb) w6).setCell (p:=⟨mb,3,none⟩) rfl _
 have hmb7:HeapIs w7 mb #[.slice sa sl sc,.int .i64 m5.at_,.int .i64 m5.params,.slice (some ⟨w5.heap.size,0,none⟩) n n,.int .i64 m5.next,m5.livev] 122:=by rw[hw7];exact (HMB5.out.keep HBK.out.1).set 3 _
 have hm50:m5.bks=[]:=by
  have h1:=HT.out.mv.len
  rw[HM4.out.2.1]at h1
  exact List.length_eq_zero_iff.1 h1
 have hflat:(List.replicate n fb0).flatMap fbcells=(List.replicate n (Value.agg #[.slice none 0 0,.slice none 0 0,.int .i64 0,.slice none 0 0,.slice none 0 0,.int .i32 0]).cells.toList).flatten:=by
  rw[List.flatMap_def,List.map_replicate];rfl
 have hne:¬ w5.heap.size=mb:=fun e=>by have:=HMB5.out.lt;omega
 have H7:=Lib.hid (MkOk.setBlocks (C:=fun q=>q=w.heap.size) (n:=n) (bb:=w5.heap.size) (HT.out.ok.swapC (C':=fun q=>q=w.heap.size) (T:=fun _=>False) (Turn.since (Since.refl _)) (fun q _ e=>e.elim) (fun q hq=>⟨.inl (.inl hq),by rw[hq];exact HR5.out.lt⟩)) hm50 (by omega) (Nat.le_refl _) (by rw[hflat];exact HBK.out.2.turn t7 hne) hmb7 ((Turn.since (S:=fun q=>q=mb) HBK.out.1).trans t7))
 have hex0:∀ q,CE [⟨w.heap.size,#[.int .i64 0,.slice none 0 0],120⟩] q→q=w.heap.size:=fun q hq=>by
  obtain⟨x,hx,hxq⟩:=hq
  rw[←hxq,List.mem_singleton.1 hx]
 have HST:=Lib.hid (show MSt w [⟨w.heap.size,#[.int .i64 0,.slice none 0 0],120⟩] mb w5.heap.size tb (.slice sa sl sc) l n rows { m5 with bks:=List.replicate n fb0 } w7 from by
  have hbb:Own mb (.slice (some ⟨w5.heap.size,0,none⟩) n n) { m5 with bks:=List.replicate n fb0 }=fun q=>Own mb (.slice (some ⟨w5.heap.size,0,none⟩) n n) { m5 with bks:=List.replicate n fb0 } q:=rfl
  have hlow5:∀ q,Own mb (.slice none 0 0) m5 q→w.heap.size≤q:=fun q hq=>by
   rcases HT.out.mv.new q hq with h1|h1
   ·have h2:=own_none HM4.out.2.2.2.1 HM4.out.2.1 h1
    have:=HMB.out
    omega
   ·have:=HS4.out;omega
  have hlow:∀ q,Own mb (.slice (some ⟨w5.heap.size,0,none⟩) n n) { m5 with bks:=List.replicate n fb0 } q→w.heap.size≤q:=by
   rintro q (hq|hq|hq|⟨b,hb,hq⟩)
   ·exact hlow5 q (.inl hq)
   ·have hq:w5.heap.size=q:=Option.some.inj hq
    rw[←hq]
    exact Nat.le_trans (Nat.le_of_lt HS4.out) HT.out.mv.turn.size
   ·exact hlow5 q (.inr (.inr (.inl hq)))
   ·rw[(List.mem_replicate.1 hb).2]at hq
    rcases hq with hq|hq<;>cases hq
  have hr7:HeapIs w7 w.heap.size #[.int .i64 0,.slice none 0 0] 120:=(HR5.out.keep HBK.out.1).turn t7 (by have:=HMB.out;omega)
  refine⟨H7.out.swapC (T:=fun _=>False) (Turn.refl _ _) (fun q _ e=>e.elim) (fun q hq=>⟨.inl (hex0 q hq),by rw[hex0 q hq];exact hr7.lt⟩),fun x hx=>?_,?_,?_,hlow,by simp,HT.out.len,HT.out.inr,HT.out.few⟩
  ·rw[List.mem_singleton.1 hx]
   exact⟨hr7,Nat.le_refl _⟩
  ·have htw:∀ q,CR (fun q=>q=w.heap.size) tb rows q→¬ Own mb (.slice none 0 0) m5 q∧q<w5.heap.size:=fun q hq=>⟨(HT.out.ok.aside q hq).2,(HT.out.ok.aside q hq).1⟩
   have hno:∀ q,CR (fun q=>q=w.heap.size) tb rows q→w.heap.size<q→¬ OwnC (CE [⟨w.heap.size,#[.int .i64 0,.slice none 0 0],120⟩]) mb (.slice (some ⟨w5.heap.size,0,none⟩) n n) { m5 with bks:=List.replicate n fb0 } q:=by
    rintro q hq hlt ((hq2|hq2|hq2|⟨b,hb,hq2⟩)|hq2)
    ·exact (htw q hq).1 (.inl hq2)
    ·cases hq2;exact absurd (htw _ hq).2 (Nat.lt_irrefl _)
    ·exact (htw q hq).1 (.inr (.inr (.inl hq2)))
    ·rw[(List.mem_replicate.1 hb).2]at hq2
     rcases hq2 with hq2|hq2<;>cases hq2
    ·rw[hex0 q hq2]at hlt;exact absurd hlt (Nat.lt_irrefl _)
   have h4:=HS4.out
   have hmbt:∀ q,CR (fun q=>q=w.heap.size) tb rows q→¬ q=mb:=fun q hq e=>(htw q hq).1 (.inl e)
   refine⟨(HT.out.box.keep HBK.out.1).turn t7 (hmbt tb (.inr (.inl rfl))),hno tb (.inr (.inl rfl)) (by have:=HT.out.low;omega),fun r hr=>?_⟩
   have ho:=HT.out.own r hr
   have hlo:=World.ownsRow.lt ho
   refine⟨((nums_of_own ho).keep HBK.out.1).turn t7 fun q hq=>hmbt q (.inr (.inr ⟨r,hr,hq⟩)),fun q hq=>⟨hno q (.inr (.inr ⟨r,hr,hq⟩)) ?_,?_⟩⟩
   ·have:=(hlo q hq).1;omega
   ·have h1:=(hlo q hq).2
    have h2:=HBK.out.1.size
    have h3:=t7.size
    omega
  ·exact t7.toSince ((HS5.out).trans HBK.out.1) fun k hk e=>by have:=HMB.out;omega)
 have HM7:=Lib.hid (show m5.at_≤102∧m5.next=x∧m5.params=x∧m5.live=[] from by
  have h1:=HT.out.mv.at_
  have h2:=HT.out.mv.next
  have h3:=HT.out.mv.live
  rw[HM4.out.1]at h1
  rw[HM4.out.2.2.1.1]at h2
  rw[HM4.out.2.2.2.2]at h3
  refine⟨by omega,by omega,HT.out.mv.same.1.trans HM4.out.2.2.1.2,List.length_eq_zero_iff.1 ?_⟩
  simp only[List.length_nil]at h3
  omega)
 rw[←hw7]
 clear hex0 HBK hc3 hl6 hf6 t7 hmb7 hflat hne HMB5 H7 HS5 HR5 HT HS4 HSN4 HM4 TI hm50
 obtain⟨bb,hbb⟩:∃ bb,bb=w5.heap.size:=⟨_,rfl⟩
 rw[←hbb]at HST ⊢
 clear hbb hw7
 have HX:=Lib.hid (And.intro hx0 hx1)
 refine mk_tos w [bxR w.heap.size] sa sl sc l rows { m5 with bks:=List.replicate n fb0 } w.heap.size mb bb n tb _ _ _ (fr_mk rfl rfl (sl_cons rfl (sl_cons rfl (sl_cons rfl (sl_cons rfl (sl_cons rfl (sl_nil _))))))) HST.out hn9 (fun k hk=>by rw[(List.mem_replicate.1 hk).2];exact⟨rfl,rfl⟩) ?_
 clear HST
 intro a1 w8 bks hf hst htos hemp
 obtain⟨u,ha0,hu⟩:=frame_ex hf
 obtain⟨g1,g2,s2,s3,s4,s5,g3⟩:=hf
 have e2:=hu 2 _ s2
 have e3:=hu 3 _ s3
 have e4:=hu 4 _ s4
 have e5:=hu 5 _ s5
 rw[e2,e3,e4,e5]at ha0
 subst ha0
 clear hu g1 g2 g3 e2 s2 e3 s3 e4 s4 e5 s5
 have HST2:=Lib.hid hst
 have HTOS:=Lib.hid htos
 have HEMP:=Lib.hid hemp
 obtain⟨t3,ht3,z0,z1,z2⟩:=info_parts Try.info3
 have TI3:=Lib.hid (And.intro ht3 (And.intro z0 (And.intro z1 z2)))
 clear hst htos hemp ht3 z0 z1 z2
 go_upto_block 2 with (refine wpList_make_full _ rfl (.tmp 78) (.tmp 78) 25 rfl _ 3 t3 (.int .i64 0) 1 Try.underlying25 TI3.out.1 TI3.out.2.1 TI3.out.2.2.1 .i64 .i64 _ _ n rfl rfl rfl rfl (by rw[TI3.out.2.2.2];omega) (by unfold maxLen;omega) (Nat.le_refl _) ?_;intro w9 hown hgrow;have hbk:=made_block rfl (by decide) hown hgrow;have HBK:=Lib.hid hbk;clear hown hgrow hbk)
 have HST8:=Lib.hid (show MSt w (exP w.heap.size w8.heap.size (List.replicate n 0)) mb bb tb (.slice sa sl sc) l n rows { m5 with bks:=bks } w9 from MSt.addP HST2.out HBK.out.1 (by have h:=HBK.out.2;rw[show (List.replicate n (Value.int .i64 0).cells.toList).flatten=(List.replicate n (0:Int)).map (Value.int .i64) from by rw[List.map_replicate];exact flat_one_rep n _]at h;exact h) (Nat.le_refl _))
 have HPH8:=Lib.hid (show PhI (List.replicate n 0) n n 0 { m5 with bks:=bks } from by
  refine⟨by simp,fun v hv=>?_,by rw[List.getElem?_replicate,if_pos (by omega)],fun k hk p hp=>?_,fun j k v _ hk hv=>?_,fun k hk=>?_⟩
  ·rw[(List.mem_replicate.1 hv).2];omega
  ·rw[(HEMP.out k hk).1]at hp;cases hp
  ·rw[List.getElem?_replicate]at hv
   split at hv
   ·rw[(HEMP.out k (List.mem_of_getElem? hk)).1];exact Option.some.inj hv
   ·cases hv
  ·rw[(HEMP.out k (List.mem_of_getElem? hk)).1];rfl)
 have HHD8:=Lib.hid (show Hd x 102 0 { m5 with bks:=bks } from⟨HM7.out.1,by have:=HM7.out.2.1;show m5.next≤_;omega,HM7.out.2.2.1,HM7.out.2.2.2,fun k hk=>(HEMP.out k hk).2⟩)
 obtain⟨pb,hpb⟩:∃ z,z=w8.heap.size:=⟨_,rfl⟩
 rw[←hpb]at HST8 ⊢
 clear HBK HST2 HEMP HM7 TI3 hpb
 refine mk_phss w sa sl sc l rows { m5 with bks:=bks } w.heap.size mb bb n tb pb (List.replicate n 0) x _ _ _ (fr_mk rfl rfl (sl_cons rfl (sl_cons rfl (sl_cons rfl (sl_cons rfl (sl_cons rfl (sl_cons rfl (sl_nil _)))))))) HST8.out hn9 (by have:=HX.out;omega) HTOS.out HPH8.out (fun j v hj hv=>by
  rw[List.getElem?_replicate]at hv
  split at hv
  ·exact (Option.some.inj hv).symm
  ·cases hv) (HHD8.out.more (by omega) (by omega)) ?_
 clear HST8 HTOS HPH8 HHD8
 intro a1 w2 ph m hf hst htos hphi hhd
 obtain⟨u,ha0,hu⟩:=frame_ex hf
 obtain⟨g1,g2,s2,s3,s4,s5,s7,g3⟩:=hf
 have e2:=hu 2 _ s2
 have e3:=hu 3 _ s3
 have e4:=hu 4 _ s4
 have e5:=hu 5 _ s5
 have e7:=hu 7 _ s7
 rw[e2,e3,e4,e5,e7]at ha0
 subst ha0
 clear hu g1 g2 g3 e2 s2 e3 s3 e4 s4 e5 s5 e7 s7
 have HST2:=Lib.hid hst
 have HTOS:=Lib.hid htos
 have hinb:(Try.prog.info? 4).map (fun i=>(i.zero,i.size,i.bytes))=some (some (.bool false),1,1):=by kernel_rfl
 obtain⟨tbi,htb1,htb2,htb3,htb4⟩:=info_parts hinb
 have TIB:=Lib.hid (And.intro htb1 (And.intro htb2 (And.intro htb3 htb4)))
 have HLP0:=Lib.hid (Lp.start hphi hhd (by omega) (by omega))
 clear hst htos hphi hhd hinb htb1 htb2 htb3 htb4
 go_upto_block 6 with (refine wpList_make_full _ rfl (.tmp 135) (.tmp 135) 79 rfl _ 4 tbi (.bool false) 1 Try.underlying79 TIB.out.1 TIB.out.2.1 TIB.out.2.2.1 .i64 .i64 _ _ n rfl rfl rfl rfl (by rw[TIB.out.2.2.2];omega) (by unfold maxLen;omega) (Nat.le_refl _) ?_;intro w10 hown hgrow;have hbk:=made_block rfl (by decide) hown hgrow;have HBK:=Lib.hid hbk;clear hown hgrow hbk)
 have HST9:=Lib.hid (show MSt w (exD w.heap.size pb w2.heap.size ph (dnL n 0)) mb bb tb (.slice sa sl sc) l n rows m w10 from MSt.addD HST2.out HBK.out.1 (by have h:=HBK.out.2;rw[show (List.replicate n (Value.bool false).cells.toList).flatten=(dnL n 0).map Value.bool from by rw[←dnL_zero,List.map_replicate];exact flat_one_rep n _]at h;exact h) (Nat.le_refl _))
 obtain⟨db,hdb⟩:∃ z,z=w2.heap.size:=⟨_,rfl⟩
 rw[←hdb]at HST9 ⊢
 clear HBK HST2 TIB hdb
 refine mk_turns w sa sl sc l rows m w.heap.size mb bb n tb pb db ph x _ _ _ (fr_mk rfl rfl (sl_cons rfl (sl_cons rfl (sl_cons rfl (sl_cons rfl (sl_cons rfl (sl_cons rfl (sl_cons rfl (sl_nil _))))))))) HST9.out hn9 HCH.out HTOS.out HLP0.out ?_
 clear HST9 HTOS HLP0 m
 intro a1 w2 m hf hst htos hlp
 obtain⟨u,ha0,hu⟩:=frame_ex hf
 obtain⟨g1,g2,s2,s3,s4,s5,s7,s11,g3⟩:=hf
 have e2:=hu 2 _ s2
 have e3:=hu 3 _ s3
 have e4:=hu 4 _ s4
 have e5:=hu 5 _ s5
 have e7:=hu 7 _ s7
 have e11:=hu 11 _ s11
 rw[e2,e3,e4,e5,e7,e11]at ha0
 subst ha0
 clear hu g1 g2 g3 e2 s2 e3 s3 e4 s4 e5 s5 e7 s7 e11 s11
 have HST:=Lib.hid hst
 have HFS:=Lib.hid (FinS.start hlp hst.len hn9.2 (by have:=HX.out;omega))
 clear hst htos hlp
 go_upto_block 24 with fail
 refine mk_last w (exD w.heap.size pb db ph (dnL n n)) sa sl sc l rows m w.heap.size mb bb n tb pb ph x _ _ _ (fr_mk rfl rfl (sl_cons rfl (sl_cons rfl (sl_cons rfl (sl_cons rfl (sl_cons rfl (sl_nil _))))))) HST.out hn9 (fun z hz=>by
  simp only[exD,List.mem_cons,List.not_mem_nil,or_false]at hz
  rcases hz with rfl|rfl|rfl
  ·show (120:TypeId)≠150;decide
  ·show (3:TypeId)≠150;decide
  ·show (4:TypeId)≠150;decide) (by simp[exD]) HFS.out ?_
 clear HST HFS m
 intro a1 w2 m c hf hst hfs hc
 obtain⟨u,ha0,hu⟩:=frame_ex hf
 obtain⟨g1,g2,s2,s3,s4,s7,g3⟩:=hf
 have e2:=hu 2 _ s2
 have e3:=hu 3 _ s3
 have e4:=hu 4 _ s4
 have e7:=hu 7 _ s7
 rw[e2,e3,e4,e7]at ha0
 subst ha0
 clear hu g1 g2 g3 e2 s2 e3 s3 e4 s4 e7 s7
 have HST:=Lib.hid hst
 have HFS:=Lib.hid hfs
 have hbx:=hst.box
 have hb2:=hbx.cell 2
 have hb3:=hbx.cell 3
 have hl3:=hbx.lt
 have hrb:HeapIs w2 w.heap.size #[.int .i64 0,.slice none 0 0] 120:=(hst.boxes (bxR w.heap.size) (by simp[exD])).1
 have hr0:=hrb.cell 0
 have hr1:=hrb.cell 1
 have hrl:=hrb.lt
 have hrf:=hrb.frozen
 have HRB:=Lib.hid hrb
 clear hst hfs hbx hrb
 go_wp2_with fail
 have hres:=(HRB.out.set 0 (.int .i64 m.params)).set 1 (.slice (some ⟨bb,0,none⟩) n n)
 try simp only[Exit.inBlock,Exit.then]
 refine bodyPost_ret (results_cell_row rfl _ _ w.heap.size 120 #[.int .i64 m.params,.slice (some ⟨bb,0,none⟩) n n] (0,0) _ rfl hres Try.underlying120 rfl (by kernel_rfl)) rfl ?_
 have t:Turn (fun q=>q=w.heap.size) w2 ((w2.setCell ⟨w.heap.size,0,none⟩ (.int .i64 m.params)).setCell ⟨w.heap.size,1,none⟩ (.slice (some ⟨bb,0,none⟩) n n)):=((Turn.refl (fun q=>q=w.heap.size) w2).setCell (p:=⟨w.heap.size,0,none⟩) rfl _).setCell (p:=⟨w.heap.size,1,none⟩) rfl _
 have hst2:=HST.out.beside (ex':=[]) t (fun q _ e=>⟨bxR w.heap.size,by simp[exD],e.symm⟩) (fun z hz=>by cases hz)
 exact⟨⟨m.params,m.bks,.slice (some ⟨bb,0,none⟩) n n⟩,rfl,hst2.fn,MadeF.of HFS.out hst2.len hn9 hc (by have:=HX.out;omega) hst2.ok.good,hst2.old,fun k hk=>⟨fun y hy q hq=>((hst2.ok.each k hk).arg y hy).2 q hq |>.2,fun q hq=>((hst2.ok.each k hk).term.2.1 q hq).2,fun q hq=>((hst2.ok.each k hk).term.2.2 q hq).2⟩⟩
structure MBlkV where
 phis:List FPhi
 phv:Value
 ins:List MaV
 insv:Value
 fin:EndV
structure MFnV where
 params:Int
 blocks:List MBlkV
 bv:Value
def mbcells (b:MBlkV):List Value:=[b.phv,b.insv,.int .i64 b.fin.op,.int .i64 b.fin.a,.int .i64 b.fin.b,b.fin.tov,.int .i32 b.fin.imm]
theorem mbcells_len (b:MBlkV):(mbcells b).length=7:=rfl
def mfv (f:MFnV):Value:=.agg #[.int .i64 f.params,f.bv]
def MaIn (w:World) (x:MaV):Prop:=Ints w x.av x.m.args
theorem MaIn.keep (w w':World) (x:MaV) (h:MaIn w x) (s:Since w w'):MaIn w' x:=Nums.keep h s
def MBlkIn (w:World) (b:MBlkV):Prop:=RowIn fpcells 2 FPhiIn w b.phv b.phis∧RowIn macells 8 MaIn w b.insv b.ins∧Ints w b.fin.tov b.fin.to
theorem MBlkIn.keep (w w':World) (b:MBlkV) (h:MBlkIn w b) (s:Since w w'):MBlkIn w' b:=⟨RowIn.keep FPhiIn.keep h.1 s,RowIn.keep MaIn.keep h.2.1 s,h.2.2.keep s⟩
def MFnIn (w:World) (f:MFnV):Prop:=RowIn mbcells 7 MBlkIn w f.bv f.blocks
theorem MFnIn.keep {w w':World} {f : MFnV} (h:MFnIn w f) (s:Since w w'):MFnIn w' f:=RowIn.keep MBlkIn.keep h s
structure MStay (S:Nat→Prop) (w:World) (b:MBlkV):Prop where
 phv:Stays S w b.phv
 phs:∀ p∈b.phis,Stays S w p.inv
 insv:Stays S w b.insv
 args:∀ x∈b.ins,Stays S w x.av
 tov:Stays S w b.fin.tov
section
variable {S S' T:Nat→Prop} {w w':World} {b : MBlkV}
theorem MStay.mono (h:MStay S w b) (hS:∀ q,S' q→S q∨w.heap.size≤q) (hz:w.heap.size≤w'.heap.size):MStay S' w' b:=
 ⟨h.phv.mono hS hz,fun p hp=>(h.phs p hp).mono hS hz,h.insv.mono hS hz,fun x hx=>(h.args x hx).mono hS hz,h.tov.mono hS hz⟩
theorem Stays.turns {v : Value} (h:Stays S w v) (hT:∀ q,q<w.heap.size→T q→S q):∀ q,v.ownBlock=some q→¬ T q:=fun q hq e=>(h q hq).1 (hT q (h q hq).2 e)
theorem MBlkIn.turn (h:MBlkIn w b) (st:MStay S w b) (t:Turn T w w') (hT:∀ q,q<w.heap.size→T q→S q):MBlkIn w' b:=
 ⟨RowIn.turn h.1 t (st.phv.turns hT) fun p hp hi=>RowIn.turn (show RowIn prcells 2 (fun _ _=>True) w p.inv p.ins from hi) t ((st.phs p hp).turns hT) (fun _ _ h=>h),RowIn.turn h.2.1 t (st.insv.turns hT) fun x hx hi=>Nums.turn hi t ((st.args x hx).turns hT),h.2.2.turn t (st.tov.turns hT)⟩
theorem MBlkIn.grow (h:MBlkIn w b) (s:Since w w'):MBlkIn w' b:=MBlkIn.keep w w' b h s
end
theorem own_apart {w : World} {b1 b2 s1 s2 n1 n2:Nat} {e1 e2:TypeId} {v1 v2:Value} {x1 x2:List Value} (h1:w.ownsRow b1 e1 s1 v1 n1 x1) (h2:w.ownsRow b2 e2 s2 v2 n2 x2) (hne:e1≠e2):∀ q,v1.ownBlock=some q→¬ v2.ownBlock=some q:=by
 intro q hq hq2
 obtain⟨_,⟨rfl,_⟩|⟨g1,c1,u1,rfl,_,k1,_⟩⟩:=h1
 ·cases hq
 ·obtain⟨_,⟨rfl,_⟩|⟨g2,c2,u2,rfl,_,k2,_⟩⟩:=h2
  ·cases hq2
  ·have e:g1=q:=Option.some.inj hq
   have e2:g2=q:=Option.some.inj hq2
   subst e;subst e2
   rw[k1]at k2
   simp only[Option.some.injEq,Obj.cells.injEq]at k2
   exact hne k2.2.1
structure MBGood (n:Nat) (b:MBlkV):Prop where
 few:b.phis.length≤3
 phis:∀ p∈b.phis,(0≤p.dst∧p.dst<700)∧p.ins.length≤9∧∀ y∈p.ins,(0≤y.1∧y.1<(n:Int))∧0≤y.2∧y.2<700
 ins:∀ x∈b.ins,MGood x.m
 fin:EGood7 n b.fin
def insSum7 (l:List MBlkV):Nat:=(l.map fun b=>b.ins.length).sum
def finsSum (l:List FBlk):Nat:=(l.map fun b=>b.ins.length).sum
theorem finsSum_succ {l : List FBlk} {j : Nat} {b : FBlk} (h:l[j]? = some b):finsSum (l.take (j+1))=finsSum (l.take j)+b.ins.length:=by
 unfold finsSum;rw[List.take_add_one,h];simp
theorem finsSum_take (l:List FBlk) (j:Nat):finsSum (l.take j)≤finsSum l:=by
 unfold finsSum
 conv=>rhs;rw[←List.take_append_drop j l,List.map_append,List.sum_append]
 omega
structure MadeM (f:MFnV):Prop where
 params:0≤f.params∧f.params≤4
 blocks:1≤f.blocks.length∧f.blocks.length≤9
 each:∀ b∈f.blocks,MBGood f.blocks.length b
 total:insSum7 f.blocks≤3600
structure FAt (xb FB foff n fbc b:Nat) (params:Int) (k:FBlk) (w:World):Prop where
 box:HeapIs w xb #[.int .i64 params,.slice (some ⟨FB,foff,none⟩) n fbc] 120
 cell:∀ t,t<6→w.cell? ⟨FB,foff+b*6+t,none⟩=(fbcells k)[t]?
 lt:FB<w.heap.size
 blk:FBlkIn w k
theorem FAt.of {xb FB foff n fbc b:Nat} {params:Int} {fb:List FBlk} {k : FBlk} {w0 w:World} (hf:FnIn w0 ⟨params,fb,.slice (some ⟨FB,foff,none⟩) n fbc⟩) (hk:fb[b]? = some k) (s:Since w0 w) (hb:HeapIs w xb #[.int .i64 params,.slice (some ⟨FB,foff,none⟩) n fbc] 120):FAt xb FB foff n fbc b params k w:=by
 have h:=FnIn.keep hf s
 rcases (show RowIn fbcells 6 FBlkIn w (.slice (some ⟨FB,foff,none⟩) n fbc) fb from h) with ⟨a,_,h2⟩|⟨B,off,cap,h1,_,_,h4,h5⟩
 ·rw[h2]at hk;cases hk
 ·cases h1
  exact⟨hb,fun t ht=>(h5 b k hk).1 t ht,h4,(h5 b k hk).2⟩
def OfT (B kb ob rb:Nat) (bkv:Value) (q:Nat):Prop:=q<B∨q=kb∨q=ob∨q=rb∨bkv.ownBlock=some q
structure OfS (w0:World) (xb ob rb kb n:Nat) (params:Int) (fbv sv:Value) (fb:List FBlk) (b:Nat) (bks:List MBlkV) (bkv:Value) (w:World):Prop where
 box:HeapIs w xb #[.int .i64 params,fbv] 120
 out:HeapIs w ob #[.int .i64 params,bkv] 105
 res:HeapIs w rb #[.int .i64 0,.slice none 0 0] 105
 mkr:∃ (at_:Nat) (next:Int) (lvx:Value),HeapIs w kb #[sv,.int .i64 at_,.int .i64 next,lvx] 173∧at_≤4*finsSum (fb.take b)+2*b∧0≤next∧next≤700+4*finsSum (fb.take b)+b
 old:Since w0 w
 low:w0.heap.size≤kb∧w0.heap.size≤ob∧w0.heap.size≤rb∧w0.heap.size≤xb
 ne:ob≠rb
 row:OwnRow mbcells 7 143 w0.heap.size w bkv bks
 each:∀ x∈bks,MBlkIn w x∧MStay (OfT w0.heap.size kb ob rb bkv) w x∧MBGood n x
 len:bks.length=b
 total:insSum7 bks≤5*finsSum (fb.take b)+2*b
theorem OfS.keep {w0 w w':World} {xb ob rb kb n b:Nat} {params:Int} {fbv sv bkv:Value} {fb:List FBlk} {bks:List MBlkV} (h:OfS w0 xb ob rb kb n params fbv sv fb b bks bkv w) (s:Since w w'):OfS w0 xb ob rb kb n params fbv sv fb b bks bkv w':=by
 refine⟨h.box.keep s,h.out.keep s,h.res.keep s,?_,h.old.trans s,h.low,h.ne,h.row.keep s,fun x hx=>⟨(h.each x hx).1.grow s,(h.each x hx).2.1.mono (fun _ hq=>.inl hq) s.size,(h.each x hx).2.2⟩,h.len,h.total⟩
 obtain⟨a,nx,lv,h1,h2⟩:=h.mkr
 exact⟨a,nx,lv,h1.keep s,h2⟩
noncomputable def OCode (p:List Nat):Code:=cNav p (Try.f93.body.getD .skip)
def FrO (l:List (Nat × Value)) (a:Act):Prop:=a.tmps.size=109∧a.defers=[]∧Sl l a
theorem frO_mk {l : List (Nat × Value)} {a : Act} (h1:a.tmps.size=109) (h2:a.defers=[]) (h3:Sl l a):FrO l a:=⟨h1,h2,h3⟩
set_option maxRecDepth 1000000 in
theorem litO_range (u:Nat→Value):(u 0::u 1::u 2::u 3::u 4::u 5::u 6::u 7::u 8::u 9::u 10::u 11::u 12::u 13::u 14::u 15::u 16::u 17::u 18::u 19::u 20::u 21::u 22::u 23::u 24::u 25::u 26::u 27::u 28::u 29::u 30::u 31::u 32::u 33::u 34::u 35::u 36::u 37::u 38::u 39::u 40::u 41::u 42::u 43::u 44::u 45::u 46::u 47::u 48::u 49::u 50::u 51::u 52::u 53::u 54::u 55::u 56::u 57::u 58::u 59::u 60::u 61::u 62::u 63::u 64::u 65::u 66::u 67::u 68::u 69::u 70::u 71::u 72::u 73::u 74::u 75::u 76::u 77::u 78::u 79::u 80::u 81::u 82::u 83::u 84::u 85::u 86::u 87::u 88::u 89::u 90::u 91::u 92::u 93::u 94::u 95::u 96::u 97::u 98::u 99::u 100::u 101::u 102::u 103::u 104::u 105::u 106::u 107::u 108::[]:List Value).toArray=((List.range 109).map u).toArray:=by kernel_rfl
set_option maxRecDepth 1000000 in
theorem frameO_ex {l : List (Nat × Value)} {a : Act} (h:FrO l a):∃ u:Nat→Value,a=⟨(u 0::u 1::u 2::u 3::u 4::u 5::u 6::u 7::u 8::u 9::u 10::u 11::u 12::u 13::u 14::u 15::u 16::u 17::u 18::u 19::u 20::u 21::u 22::u 23::u 24::u 25::u 26::u 27::u 28::u 29::u 30::u 31::u 32::u 33::u 34::u 35::u 36::u 37::u 38::u 39::u 40::u 41::u 42::u 43::u 44::u 45::u 46::u 47::u 48::u 49::u 50::u 51::u 52::u 53::u 54::u 55::u 56::u 57::u 58::u 59::u 60::u 61::u 62::u 63::u 64::u 65::u 66::u 67::u 68::u 69::u 70::u 71::u 72::u 73::u 74::u 75::u 76::u 77::u 78::u 79::u 80::u 81::u 82::u 83::u 84::u 85::u 86::u 87::u 88::u 89::u 90::u 91::u 92::u 93::u 94::u 95::u 96::u 97::u 98::u 99::u 100::u 101::u 102::u 103::u 104::u 105::u 106::u 107::u 108::[]).toArray,[]⟩∧∀ i v,a.tmps[i]? = some v→u i=v:=by
 obtain⟨t,d⟩:=a
 obtain⟨h1,h2,_⟩:=h
 dsimp only at h1 h2
 obtain⟨u,hu⟩:∃ u:Nat→Value,∀ i,u i=t.getD i undef:=⟨fun i=>t.getD i undef,fun _=>rfl⟩
 refine⟨u,?_,fun i v hv=>?_⟩
 ·rw[h2]
  refine congrArg (fun x=>Act.mk x []) (Eq.trans ?_ (litO_range u).symm)
  apply Array.ext
  ·simp[h1]
  ·intro i g1 g2
   simp[g1,hu]
 ·rw[hu,Array.getD_eq_getD_getElem?,show t[i]? = some v from hv];rfl
end Go.Proofs.Ytkpbmbhejpmboaa
