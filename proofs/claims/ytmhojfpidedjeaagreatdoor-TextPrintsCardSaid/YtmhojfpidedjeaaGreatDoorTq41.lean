/- MkMade Depends TraceLink PrgMem -/
import Derived.Test.YtmhojfpidedjeaaGreatDoorTq40
import Derived.RegionTactic
import Derived.ChangeAlike
import Derived.RangeFuncNested
import Derived.RangeFuncBound
import Derived.RangeFuncCalls
import Derived.RangeFuncLeaves
import Derived.Shelf.Abstract
import Derived.Shelf.RegionOpen
import Derived.OwnWalkIn
import Derived.TacticsInMore
import Derived.LoopNIn
import Derived.LoopIn
import Derived.Laws.AppendOwnNone
namespace Go.Proofs.YtmhojfpidedjeaaGreatDoor
open Go.RowKit
set_option linter.unusedVariables false
structure MadeF (f:FnV):Prop where
 params:0≤f.params∧f.params≤4
 blocks:1≤f.blocks.length∧f.blocks.length≤9
 head:∀ k,f.blocks[0]? = some k→k.phis=[]
 phis:∀ k∈f.blocks,k.phis.length≤3∧∀ p∈k.phis,(0≤p.dst∧p.dst<700)∧p.ins.length≤9∧∀ y∈p.ins,(0≤y.1∧y.1<(f.blocks.length:Int))∧0≤y.2∧y.2<700
 ins:∀ k∈f.blocks,∀ x∈k.ins,InsGood 700 x
 total:(f.blocks.map fun b=>b.ins.length).sum≤700
 terms:∀ k∈f.blocks,TermGood 700 f.blocks.length k.term
def FnLow (w:World) (f:FnV):Prop:=∀ k∈f.blocks,(∀ x∈k.ins,∀ q,x.av.ownBlock=some q→q<w.heap.size)∧(∀ q,k.term.argsv.ownBlock=some q→q<w.heap.size)∧∀ q,k.term.tov.ownBlock=some q→q<w.heap.size
theorem MadeF.of {x : Int} {ph:List Int} {n c:Nat} {m : MkSt} {bv:Value} (h:FinS x ph n c m) (hl:m.bks.length=n) (hn:1≤n∧n≤9) (hc:c≤216) (hx:0≤x∧x≤4) (hg:MkGood m):MadeF ⟨m.params,m.bks,bv⟩:=by
 have ht:=h.total
 have hnx:=h.next
 have hp:m.params=x:=h.params
 refine⟨by show 0≤m.params∧m.params≤4;omega,by show 1≤m.bks.length∧m.bks.length≤9;omega,fun k hk=>?_,fun k hk=>⟨?_,fun p hp=>?_⟩,fun k hk y hy=>(hg.ins k hk y hy).mono (by omega),?_,fun k hk=>?_⟩
 ·exact List.length_eq_zero_iff.1 (by have:=h.cnt 0 k 0 hk h.phs.2.2;omega)
 ·obtain⟨j,hj⟩:=List.getElem?_of_mem hk
  have hj2:=(List.getElem?_eq_some_iff.1 hj).1
  obtain⟨v,hv⟩:∃ v,ph[j]? = some v:=⟨_,List.getElem?_eq_getElem (by rw[h.phs.1];replace hj2:j<m.bks.length:=hj2;omega)⟩
  have h1:=h.cnt j k v hj hv
  have h2:=h.phs.2.1 v (List.mem_of_getElem? hv)
  omega
 ·have h1:=h.phi k hk p hp
  rw[show (⟨m.params,m.bks,bv⟩:FnV).blocks.length=n from hl]
  exact h1
 ·show m.total≤700
  omega
 ·rw[show (⟨m.params,m.bks,bv⟩:FnV).blocks.length=n from hl]
  exact h.terms k hk
def FnTyp (w:World) (f:FnV):Prop:=(∀ k∈f.blocks,OwnRow fpcells 2 60 0 w k.phv k.phis∧OwnRow ficells 5 51 0 w k.inv k.ins)∧∃ bb n,f.bv=.slice (some ⟨bb,0,none⟩) n n∧HeapIs w bb (f.blocks.flatMap fbcells).toArray 57
set_option maxHeartbeats 16000000 in
set_option maxRecDepth 100000 in
theorem made_all (sv:Value) (l:List Int) (w:World) (hs:Ints w sv l) (hsv:∀ q,sv.ownBlock=some q→q<w.heap.size) :
  Calls Tryz.prog 37 #[sv] w (fun e w'=>∃ f:FnV,e=.returned (fv f)∧FnIn w' f∧MadeF f∧Since w w'∧FnLow w' f∧FnTyp w' f):=by
 obtain⟨sa,sc,hv⟩:=nums_lenI hs
 obtain⟨sl,hsl⟩:∃ x,l.length=x:=⟨_,rfl⟩
 rw[hsl]at hv
 subst hv
 have HS:=Lib.hid hs
 have HSV:=Lib.hid hsv
 clear hs hsl
 go_enter Tryz.func37,Tryz.ntmps37
 go_wp2_with fail
 obtain⟨mb,hmb⟩:∃ x,x=w.heap.size+1:=⟨_,rfl⟩
 obtain⟨w1,hw1⟩:∃ x,x=((w.alloc (.cells #[.int .i64 0,.slice none 0 0] 24)).alloc (.cells #[.slice sa sl sc,.int .i64 0,.int .i64 0,.slice none 0 0,.int .i64 0,.slice none 0 0] 101)):=⟨_,rfl⟩
 have HR1:=Lib.hid (show HeapIs w1 w.heap.size #[.int .i64 0,.slice none 0 0] 24 from by rw[hw1];exact (HeapIs.new _ _ _).keep ((Since.refl _).alloc _))
 have HS1:=Lib.hid (show Since w w1 from by rw[hw1];exact ((Since.refl _).alloc _).alloc _)
 have H1:=Lib.hid (show MkOk (fun q=>q=w.heap.size) mb (.slice none 0 0) (.slice sa sl sc) l mk0 w1 from by
  have hz:(w.alloc (.cells #[.int .i64 0,.slice none 0 0] 24)).heap.size=w.heap.size+1:=by simp
  have h:=mk_new (C:=fun q=>q=w.heap.size) (w:=w.alloc (.cells #[.int .i64 0,.slice none 0 0] 24)) (HS.out.keep ((Since.refl _).alloc _)) (fun q hq=>by have:=HSV.out q hq;omega) (fun q hq=>⟨by omega,fun e=>by have:=HSV.out q e;omega⟩) (HeapIs.new _ #[.slice sa sl sc,.int .i64 0,.int .i64 0,.slice none 0 0,.int .i64 0,.slice none 0 0] _)
  rw[hz]at h
  rw[hw1,hmb]
  exact h)
 rw[←hw1,←hmb]
 have HMB:=Lib.hid hmb
 clear hw1 hmb
 refine (mk_take H1.out 5 (by decide) (by decide)).mono ?_
 rintro e w2 ⟨m2,⟨x,rfl,⟨hx0,hx1⟩,hm2⟩,h2,mv2⟩
 have hm:HeapIs w2 mb #[.slice sa sl sc,.int .i64 m2.at_,.int .i64 m2.params,.slice none 0 0,.int .i64 m2.next,m2.livev] 101:=h2.made
 have hm3:HeapIs ((w2.setCell ⟨mb,2,none⟩ (.int .i64 x)).setCell ⟨mb,4,none⟩ (.int .i64 x)) mb #[.slice sa sl sc,.int .i64 m2.at_,.int .i64 x,.slice none 0 0,.int .i64 x,m2.livev] 101:=(hm.set 2 (.int .i64 x)).set 4 (.int .i64 x)
 have t3:Turn (fun q=>q=mb) w2 ((w2.setCell ⟨mb,2,none⟩ (.int .i64 x)).setCell ⟨mb,4,none⟩ (.int .i64 x)):=((Turn.refl (fun q=>q=mb) w2).setCell (p:=⟨mb,2,none⟩) rfl _).setCell (p:=⟨mb,4,none⟩) rfl _
 have H3:=Lib.hid (h2.setHead (p:=x) (next':=x) hm3 t3 (by rw[hm2];exact hx0) ⟨hx0,by omega,Int.le_refl _⟩)
 have hc2:=hm.cell 2
 have hc4:=hm.cell 4
 have hlm:=hm.lt
 have hfm:=hm.frozen
 have ha2:m2.at_=1:=by rw[hm2];rfl
 have hb2:m2.bks=[]∧m2.livev=.slice none 0 0∧m2.live=[]:=by rw[hm2];exact⟨rfl,rfl,rfl⟩
 have HA2:=Lib.hid (And.intro ha2 hb2)
 have HSN3:=Lib.hid (show Since w ((w2.setCell ⟨mb,2,none⟩ (.int .i64 x)).setCell ⟨mb,4,none⟩ (.int .i64 x)) from t3.toSince (mv2.turn.toSince HS1.out fun k hk e=>by have h2:=own_mk0 e;have:=HMB.out;omega) fun k hk e=>by have:=HMB.out;omega)
 have HR3:=Lib.hid ((HR1.out.turn mv2.turn (fun ho=>(H1.out.aside w.heap.size rfl).2 ho)).turn t3 (by have:=HMB.out;omega))
 clear hm hm3 t3 hm2 h2 mv2 ha2 hb2
 go_wp2_with fail
 obtain⟨w3,hw3⟩:∃ y,y=((w2.setCell ⟨mb,2,none⟩ (.int .i64 x)).setCell ⟨mb,4,none⟩ (.int .i64 x)):=⟨_,rfl⟩
 rw[←hw3]at H3 HR3 HSN3 ⊢
 clear hw3
 refine (mk_take H3.out 9 (by decide) (by show m2.at_≤_;have:=HA2.out.1;omega)).mono ?_
 rintro e w4 ⟨m4,⟨y,rfl,⟨hy0,hy1⟩,hm4⟩,h4,mv4⟩
 have ha4:m4.at_=2:=by rw[hm4];show m2.at_+1=2;rw[HA2.out.1]
 have hb4:m4.bks=[]:=by rw[hm4];exact HA2.out.2.1
 have hn4:m4.next=x∧m4.params=x∧m4.livev=.slice none 0 0∧m4.live=[]:=by rw[hm4];exact⟨rfl,rfl,HA2.out.2.2.1,HA2.out.2.2.2⟩
 have H4:=Lib.hid h4
 have HSN4:=Lib.hid (show Since w w4 from mv4.turn.toSince HSN3.out fun k hk e=>by have h2:=own_none (m:={ m2 with params:=x,next:=x }) HA2.out.2.2.1 HA2.out.2.1 e;have:=HMB.out;omega)
 have HR4:=Lib.hid (HR3.out.turn mv4.turn (fun ho=>(H3.out.aside w.heap.size rfl).2 ho))
 have HM4:=Lib.hid (show m4.at_=2∧m4.bks=[]∧(m4.next=x∧m4.params=x)∧m4.livev=.slice none 0 0∧m4.live=[] from⟨ha4,hb4,⟨hn4.1,hn4.2.1⟩,hn4.2.2⟩)
 have HS4:=Lib.hid (show w.heap.size<w4.heap.size from by have:=HR4.out.lt;exact this)
 clear h4 mv4 hm4 ha4 hb4 hn4 H3 HR3 H1 HR1
 go_wp2_with fail
 obtain⟨n,hn⟩:∃ n:Nat,1+y=(n:Int):=⟨(1+y).toNat,by omega⟩
 have hn9:1≤n∧n≤9:=by omega
 rw[hn]
 clear hn hy0 hy1
 refine (mk_targets H4.out (by have:=HM4.out.1;omega) n hn9).mono ?_
 rintro e w5 ⟨tb,rows,m5,a,rfl,hT,ha,hch⟩
 have HT:=Lib.hid hT
 have HCH:=Lib.hid hch
 have HS5:=Lib.hid (show Since w w5 from HT.out.mv.turn.toSince HSN4.out fun k hk e=>by have h2:=own_none HM4.out.2.2.2.1 HM4.out.2.1 e;have:=HMB.out;omega)
 have HR5:=Lib.hid (HR4.out.turn hT.mv.turn (fun ho=>(H4.out.aside w.heap.size rfl).2 ho))
 clear hT hch H4 HR4
 have hinf:(Tryz.prog.info? 57).map (fun i=>(i.zero,i.size,i.bytes))=some (some (.agg #[.slice none 0 0,.slice none 0 0,.int .i64 0,.slice none 0 0,.slice none 0 0,.int .i32 0]),6,112):=by kernel_rfl
 obtain⟨ti,hti,hz0,hz1,hz2⟩:=info_parts hinf
 have TI:=Lib.hid (And.intro hti (And.intro hz0 (And.intro hz1 hz2)))
 have hmb5:HeapIs w5 mb #[.slice sa sl sc,.int .i64 m5.at_,.int .i64 m5.params,.slice none 0 0,.int .i64 m5.next,m5.livev] 101:=HT.out.ok.made
 have HMB5:=Lib.hid hmb5
 clear hinf hti hz0 hz1 hz2 hmb5
 go_upto_block 0 with (refine wpList_make_full _ rfl (.tmp 55) (.tmp 55) 22 rfl w5.heap.size 57 ti (.agg #[.slice none 0 0,.slice none 0 0,.int .i64 0,.slice none 0 0,.slice none 0 0,.int .i32 0]) 6 Tryz.underlying22 TI.out.1 TI.out.2.1 TI.out.2.2.1 .i64 .i64 _ _ n rfl rfl rfl rfl (by rw[TI.out.2.2.2];omega) (by unfold maxLen;omega) (Nat.le_refl _) ?_;intro w6 hown hgrow;have hbk:=made_block rfl (by decide) hown hgrow;have HBK:=Lib.hid hbk;have hmb6:=HMB5.out.keep hbk.1;have hc3:=hmb6.cell 3;have hl6:=hmb6.lt;have hf6:=hmb6.frozen;clear hmb6 hbk hown hgrow)
 obtain⟨w7,hw7⟩:∃ y,y=w6.setCell ⟨mb,3,none⟩ (.slice (some ⟨w5.heap.size,0,none⟩) n n):=⟨_,rfl⟩
 have t7:Turn (fun q=>q=mb) w6 w7:=by rw[hw7];exact (Turn.refl (fun q=>q=mb) w6).setCell (p:=⟨mb,3,none⟩) rfl _
 have hmb7:HeapIs w7 mb #[.slice sa sl sc,.int .i64 m5.at_,.int .i64 m5.params,.slice (some ⟨w5.heap.size,0,none⟩) n n,.int .i64 m5.next,m5.livev] 101:=by rw[hw7];exact (HMB5.out.keep HBK.out.1).set 3 _
 have hm50:m5.bks=[]:=by
  have h1:=HT.out.mv.len
  rw[HM4.out.2.1]at h1
  exact List.length_eq_zero_iff.1 h1
 have hflat:(List.replicate n fb0).flatMap fbcells=(List.replicate n (Value.agg #[.slice none 0 0,.slice none 0 0,.int .i64 0,.slice none 0 0,.slice none 0 0,.int .i32 0]).cells.toList).flatten:=by
  rw[List.flatMap_def,List.map_replicate];rfl
 have hne:¬ w5.heap.size=mb:=fun e=>by have:=HMB5.out.lt;omega
 have H7:=Lib.hid (MkOk.setBlocks (C:=fun q=>q=w.heap.size) (n:=n) (bb:=w5.heap.size) (HT.out.ok.swapC (C':=fun q=>q=w.heap.size) (T:=fun _=>False) (Turn.since (Since.refl _)) (fun q _ e=>e.elim) (fun q hq=>⟨.inl (.inl hq),by rw[hq];exact HR5.out.lt⟩)) hm50 (by omega) (Nat.le_refl _) (by rw[hflat];exact HBK.out.2.turn t7 hne) hmb7 ((Turn.since (S:=fun q=>q=mb) HBK.out.1).trans t7))
 have hex0:∀ q,CE [⟨w.heap.size,#[.int .i64 0,.slice none 0 0],24⟩] q→q=w.heap.size:=fun q hq=>by
  obtain⟨x,hx,hxq⟩:=hq
  rw[←hxq,List.mem_singleton.1 hx]
 have HST:=Lib.hid (show MSt w [⟨w.heap.size,#[.int .i64 0,.slice none 0 0],24⟩] mb w5.heap.size tb (.slice sa sl sc) l n rows { m5 with bks:=List.replicate n fb0 } w7 from by
  have hbb:Own mb (.slice (some ⟨w5.heap.size,0,none⟩) n n) { m5 with bks:=List.replicate n fb0 }=fun q=>Own mb (.slice (some ⟨w5.heap.size,0,none⟩) n n) { m5 with bks:=List.replicate n fb0 } q:=rfl
  have hlow5:∀ q,Own mb (.slice none 0 0) m5 q→w.heap.size≤q:=fun q hq=>by
   rcases HT.out.mv.new q hq with h1|h1
   ·have h2:=own_none HM4.out.2.2.2.1 HM4.out.2.1 h1
    have:=HMB.out
    omega
   ·have:=HS4.out;omega
  have hlow:∀ q,Own mb (.slice (some ⟨w5.heap.size,0,none⟩) n n) { m5 with bks:=List.replicate n fb0 } q→w.heap.size≤q:=by
   rintro q (hq|hq|hq|⟨b,hb,hq⟩)
   ·exact hlow5 q (.inl hq)
   ·have hq:w5.heap.size=q:=Option.some.inj hq
    rw[←hq]
    exact Nat.le_trans (Nat.le_of_lt HS4.out) HT.out.mv.turn.size
   ·exact hlow5 q (.inr (.inr (.inl hq)))
   ·rw[(List.mem_replicate.1 hb).2]at hq
    rcases hq with hq|hq<;>cases hq
  have hr7:HeapIs w7 w.heap.size #[.int .i64 0,.slice none 0 0] 24:=(HR5.out.keep HBK.out.1).turn t7 (by have:=HMB.out;omega)
  refine⟨H7.out.swapC (T:=fun _=>False) (Turn.refl _ _) (fun q _ e=>e.elim) (fun q hq=>⟨.inl (hex0 q hq),by rw[hex0 q hq];exact hr7.lt⟩),fun x hx=>?_,?_,?_,hlow,by simp,HT.out.len,HT.out.inr,HT.out.few⟩
  ·rw[List.mem_singleton.1 hx]
   exact⟨hr7,Nat.le_refl _⟩
  ·have htw:∀ q,CR (fun q=>q=w.heap.size) tb rows q→¬ Own mb (.slice none 0 0) m5 q∧q<w5.heap.size:=fun q hq=>⟨(HT.out.ok.aside q hq).2,(HT.out.ok.aside q hq).1⟩
   have hno:∀ q,CR (fun q=>q=w.heap.size) tb rows q→w.heap.size<q→¬ OwnC (CE [⟨w.heap.size,#[.int .i64 0,.slice none 0 0],24⟩]) mb (.slice (some ⟨w5.heap.size,0,none⟩) n n) { m5 with bks:=List.replicate n fb0 } q:=by
    rintro q hq hlt ((hq2|hq2|hq2|⟨b,hb,hq2⟩)|hq2)
    ·exact (htw q hq).1 (.inl hq2)
    ·cases hq2;exact absurd (htw _ hq).2 (Nat.lt_irrefl _)
    ·exact (htw q hq).1 (.inr (.inr (.inl hq2)))
    ·rw[(List.mem_replicate.1 hb).2]at hq2
     rcases hq2 with hq2|hq2<;>cases hq2
    ·rw[hex0 q hq2]at hlt;exact absurd hlt (Nat.lt_irrefl _)
   have h4:=HS4.out
   have hmbt:∀ q,CR (fun q=>q=w.heap.size) tb rows q→¬ q=mb:=fun q hq e=>(htw q hq).1 (.inl e)
   refine⟨(HT.out.box.keep HBK.out.1).turn t7 (hmbt tb (.inr (.inl rfl))),hno tb (.inr (.inl rfl)) (by have:=HT.out.low;omega),fun r hr=>?_⟩
   have ho:=HT.out.own r hr
   have hlo:=World.ownsRow.lt ho
   refine⟨((nums_of_own ho).keep HBK.out.1).turn t7 fun q hq=>hmbt q (.inr (.inr ⟨r,hr,hq⟩)),fun q hq=>⟨hno q (.inr (.inr ⟨r,hr,hq⟩)) ?_,?_⟩⟩
   ·have:=(hlo q hq).1;omega
   ·have h1:=(hlo q hq).2
    have h2:=HBK.out.1.size
    have h3:=t7.size
    omega
  ·exact t7.toSince ((HS5.out).trans HBK.out.1) fun k hk e=>by have:=HMB.out;omega)
 have HM7:=Lib.hid (show m5.at_≤102∧m5.next=x∧m5.params=x∧m5.live=[] from by
  have h1:=HT.out.mv.at_
  have h2:=HT.out.mv.next
  have h3:=HT.out.mv.live
  rw[HM4.out.1]at h1
  rw[HM4.out.2.2.1.1]at h2
  rw[HM4.out.2.2.2.2]at h3
  refine⟨by omega,by omega,HT.out.mv.same.1.trans HM4.out.2.2.1.2,List.length_eq_zero_iff.1 ?_⟩
  simp only[List.length_nil]at h3
  omega)
 rw[←hw7]
 clear hex0 HBK hc3 hl6 hf6 t7 hmb7 hflat hne HMB5 H7 HS5 HR5 HT HS4 HSN4 HM4 TI hm50
 obtain⟨bb,hbb⟩:∃ bb,bb=w5.heap.size:=⟨_,rfl⟩
 rw[←hbb]at HST ⊢
 clear hbb hw7
 have HX:=Lib.hid (And.intro hx0 hx1)
 refine mk_tos w [bxR w.heap.size] sa sl sc l rows { m5 with bks:=List.replicate n fb0 } w.heap.size mb bb n tb _ _ _ (fr_mk rfl rfl (sl_cons rfl (sl_cons rfl (sl_cons rfl (sl_cons rfl (sl_cons rfl (sl_nil _))))))) HST.out hn9 (fun k hk=>by rw[(List.mem_replicate.1 hk).2];exact⟨rfl,rfl⟩) ?_
 clear HST
 intro a1 w8 bks hf hst htos hemp
 obtain⟨u,ha0,hu⟩:=frame_ex hf
 obtain⟨g1,g2,s2,s3,s4,s5,g3⟩:=hf
 have e2:=hu 2 _ s2
 have e3:=hu 3 _ s3
 have e4:=hu 4 _ s4
 have e5:=hu 5 _ s5
 rw[e2,e3,e4,e5]at ha0
 subst ha0
 clear hu g1 g2 g3 e2 s2 e3 s3 e4 s4 e5 s5
 have HST2:=Lib.hid hst
 have HTOS:=Lib.hid htos
 have HEMP:=Lib.hid hemp
 obtain⟨t3,ht3,z0,z1,z2⟩:=info_parts Tryz.info3
 have TI3:=Lib.hid (And.intro ht3 (And.intro z0 (And.intro z1 z2)))
 clear hst htos hemp ht3 z0 z1 z2
 go_upto_block 2 with (refine wpList_make_full _ rfl (.tmp 78) (.tmp 78) 32 rfl _ 3 t3 (.int .i64 0) 1 Tryz.underlying32 TI3.out.1 TI3.out.2.1 TI3.out.2.2.1 .i64 .i64 _ _ n rfl rfl rfl rfl (by rw[TI3.out.2.2.2];omega) (by unfold maxLen;omega) (Nat.le_refl _) ?_;intro w9 hown hgrow;have hbk:=made_block rfl (by decide) hown hgrow;have HBK:=Lib.hid hbk;clear hown hgrow hbk)
 have HST8:=Lib.hid (show MSt w (exP w.heap.size w8.heap.size (List.replicate n 0)) mb bb tb (.slice sa sl sc) l n rows { m5 with bks:=bks } w9 from MSt.addP HST2.out HBK.out.1 (by have h:=HBK.out.2;rw[show (List.replicate n (Value.int .i64 0).cells.toList).flatten=(List.replicate n (0:Int)).map (Value.int .i64) from by rw[List.map_replicate];exact flat_one_rep n _]at h;exact h) (Nat.le_refl _))
 have HPH8:=Lib.hid (show PhI (List.replicate n 0) n n 0 { m5 with bks:=bks } from by
  refine⟨by simp,fun v hv=>?_,by rw[List.getElem?_replicate,if_pos (by omega)],fun k hk p hp=>?_,fun j k v _ hk hv=>?_,fun k hk=>?_⟩
  ·rw[(List.mem_replicate.1 hv).2];omega
  ·rw[(HEMP.out k hk).1]at hp;cases hp
  ·rw[List.getElem?_replicate]at hv
   split at hv
   ·rw[(HEMP.out k (List.mem_of_getElem? hk)).1];exact Option.some.inj hv
   ·cases hv
  ·rw[(HEMP.out k (List.mem_of_getElem? hk)).1];rfl)
 have HHD8:=Lib.hid (show Hd x 102 0 { m5 with bks:=bks } from⟨HM7.out.1,by have:=HM7.out.2.1;show m5.next≤_;omega,HM7.out.2.2.1,HM7.out.2.2.2,fun k hk=>(HEMP.out k hk).2⟩)
 obtain⟨pb,hpb⟩:∃ z,z=w8.heap.size:=⟨_,rfl⟩
 rw[←hpb]at HST8 ⊢
 clear HBK HST2 HEMP HM7 TI3 hpb
 refine mk_phss w sa sl sc l rows { m5 with bks:=bks } w.heap.size mb bb n tb pb (List.replicate n 0) x _ _ _ (fr_mk rfl rfl (sl_cons rfl (sl_cons rfl (sl_cons rfl (sl_cons rfl (sl_cons rfl (sl_cons rfl (sl_nil _)))))))) HST8.out hn9 (by have:=HX.out;omega) HTOS.out HPH8.out (fun j v hj hv=>by
  rw[List.getElem?_replicate]at hv
  split at hv
  ·exact (Option.some.inj hv).symm
  ·cases hv) (HHD8.out.more (by omega) (by omega)) ?_
 clear HST8 HTOS HPH8 HHD8
 intro a1 w2 ph m hf hst htos hphi hhd
 obtain⟨u,ha0,hu⟩:=frame_ex hf
 obtain⟨g1,g2,s2,s3,s4,s5,s7,g3⟩:=hf
 have e2:=hu 2 _ s2
 have e3:=hu 3 _ s3
 have e4:=hu 4 _ s4
 have e5:=hu 5 _ s5
 have e7:=hu 7 _ s7
 rw[e2,e3,e4,e5,e7]at ha0
 subst ha0
 clear hu g1 g2 g3 e2 s2 e3 s3 e4 s4 e5 s5 e7 s7
 have HST2:=Lib.hid hst
 have HTOS:=Lib.hid htos
 have hinb:(Tryz.prog.info? 4).map (fun i=>(i.zero,i.size,i.bytes))=some (some (.bool false),1,1):=by kernel_rfl
 obtain⟨tbi,htb1,htb2,htb3,htb4⟩:=info_parts hinb
 have TIB:=Lib.hid (And.intro htb1 (And.intro htb2 (And.intro htb3 htb4)))
 have HLP0:=Lib.hid (Lp.start hphi hhd (by omega) (by omega))
 clear hst htos hphi hhd hinb htb1 htb2 htb3 htb4
 go_upto_block 6 with (refine wpList_make_full _ rfl (.tmp 135) (.tmp 135) 129 rfl _ 4 tbi (.bool false) 1 Tryz.underlying129 TIB.out.1 TIB.out.2.1 TIB.out.2.2.1 .i64 .i64 _ _ n rfl rfl rfl rfl (by rw[TIB.out.2.2.2];omega) (by unfold maxLen;omega) (Nat.le_refl _) ?_;intro w10 hown hgrow;have hbk:=made_block rfl (by decide) hown hgrow;have HBK:=Lib.hid hbk;clear hown hgrow hbk)
 have HST9:=Lib.hid (show MSt w (exD w.heap.size pb w2.heap.size ph (dnL n 0)) mb bb tb (.slice sa sl sc) l n rows m w10 from MSt.addD HST2.out HBK.out.1 (by have h:=HBK.out.2;rw[show (List.replicate n (Value.bool false).cells.toList).flatten=(dnL n 0).map Value.bool from by rw[←dnL_zero,List.map_replicate];exact flat_one_rep n _]at h;exact h) (Nat.le_refl _))
 obtain⟨db,hdb⟩:∃ z,z=w2.heap.size:=⟨_,rfl⟩
 rw[←hdb]at HST9 ⊢
 clear HBK HST2 TIB hdb
 refine mk_turns w sa sl sc l rows m w.heap.size mb bb n tb pb db ph x _ _ _ (fr_mk rfl rfl (sl_cons rfl (sl_cons rfl (sl_cons rfl (sl_cons rfl (sl_cons rfl (sl_cons rfl (sl_cons rfl (sl_nil _))))))))) HST9.out hn9 HCH.out HTOS.out HLP0.out ?_
 clear HST9 HTOS HLP0 m
 intro a1 w2 m hf hst htos hlp
 obtain⟨u,ha0,hu⟩:=frame_ex hf
 obtain⟨g1,g2,s2,s3,s4,s5,s7,s11,g3⟩:=hf
 have e2:=hu 2 _ s2
 have e3:=hu 3 _ s3
 have e4:=hu 4 _ s4
 have e5:=hu 5 _ s5
 have e7:=hu 7 _ s7
 have e11:=hu 11 _ s11
 rw[e2,e3,e4,e5,e7,e11]at ha0
 subst ha0
 clear hu g1 g2 g3 e2 s2 e3 s3 e4 s4 e5 s5 e7 s7 e11 s11
 have HST:=Lib.hid hst
 have HFS:=Lib.hid (FinS.start hlp hst.len hn9.2 (by have:=HX.out;omega))
 clear hst htos hlp
 go_upto_block 24 with fail
 refine mk_last w (exD w.heap.size pb db ph (dnL n n)) sa sl sc l rows m w.heap.size mb bb n tb pb ph x _ _ _ (fr_mk rfl rfl (sl_cons rfl (sl_cons rfl (sl_cons rfl (sl_cons rfl (sl_cons rfl (sl_nil _))))))) HST.out hn9 (fun z hz=>by
  simp only[exD,List.mem_cons,List.not_mem_nil,or_false]at hz
  rcases hz with rfl|rfl|rfl
  ·show (24:TypeId)≠71;decide
  ·show (3:TypeId)≠71;decide
  ·show (4:TypeId)≠71;decide) (by simp[exD]) HFS.out ?_
 clear HST HFS m
 intro a1 w2 m c hf hst hfs hc
 obtain⟨u,ha0,hu⟩:=frame_ex hf
 obtain⟨g1,g2,s2,s3,s4,s7,g3⟩:=hf
 have e2:=hu 2 _ s2
 have e3:=hu 3 _ s3
 have e4:=hu 4 _ s4
 have e7:=hu 7 _ s7
 rw[e2,e3,e4,e7]at ha0
 subst ha0
 clear hu g1 g2 g3 e2 s2 e3 s3 e4 s4 e7 s7
 have HST:=Lib.hid hst
 have HFS:=Lib.hid hfs
 have hbx:=hst.box
 have hb2:=hbx.cell 2
 have hb3:=hbx.cell 3
 have hl3:=hbx.lt
 have hrb:HeapIs w2 w.heap.size #[.int .i64 0,.slice none 0 0] 24:=(hst.boxes (bxR w.heap.size) (by simp[exD])).1
 have hr0:=hrb.cell 0
 have hr1:=hrb.cell 1
 have hrl:=hrb.lt
 have hrf:=hrb.frozen
 have HRB:=Lib.hid hrb
 clear hst hfs hbx hrb
 go_wp2_with fail
 have hres:=(HRB.out.set 0 (.int .i64 m.params)).set 1 (.slice (some ⟨bb,0,none⟩) n n)
 try simp only[Exit.inBlock,Exit.then]
 refine bodyPost_ret (results_cell_row rfl _ _ w.heap.size 24 #[.int .i64 m.params,.slice (some ⟨bb,0,none⟩) n n] (0,0) _ rfl hres Tryz.underlying24 rfl (by kernel_rfl)) rfl ?_
 have t:Turn (fun q=>q=w.heap.size) w2 ((w2.setCell ⟨w.heap.size,0,none⟩ (.int .i64 m.params)).setCell ⟨w.heap.size,1,none⟩ (.slice (some ⟨bb,0,none⟩) n n)):=((Turn.refl (fun q=>q=w.heap.size) w2).setCell (p:=⟨w.heap.size,0,none⟩) rfl _).setCell (p:=⟨w.heap.size,1,none⟩) rfl _
 have hst2:=HST.out.beside (ex':=[]) t (fun q _ e=>⟨bxR w.heap.size,by simp[exD],e.symm⟩) (fun z hz=>by cases hz)
 exact⟨⟨m.params,m.bks,.slice (some ⟨bb,0,none⟩) n n⟩,rfl,hst2.fn,MadeF.of HFS.out hst2.len hn9 hc (by have:=HX.out;omega) hst2.ok.good,hst2.old,fun k hk=>⟨fun y hy q hq=>((hst2.ok.each k hk).arg y hy).2 q hq |>.2,fun q hq=>((hst2.ok.each k hk).term.2.1 q hq).2,fun q hq=>((hst2.ok.each k hk).term.2.2 q hq).2⟩,fun k hk=>⟨(hst2.ok.each k hk).phis,(hst2.ok.each k hk).ins⟩,bb,n,rfl,hst2.blkAt⟩
def Two (p q:Bool) (w:World) (e:Ending) (w':World):Prop:=e=.returned (.tuple #[.bool p,.bool q])∧w=w'
abbrev Key:Type:=Mach × Int
def key (x:PlV):Key:=(x.m,x.src)
noncomputable instance keyEq:DecidableEq Key:=Classical.typeDecidableEq _
section
variable (l:List PlV)
def kk (k:Fin l.length):Key:=key (l.get k)
end
open Go.RowKit Go.ChangeShapes Go.WideShapes
theorem okWide_lt {P : Program} {w : World} {r : Reach} {base:Nat} {t e:TypeId} {v : Value} (ht:P.underlying t=some (.slice e)) (h:Value.okWide P w r base t v):∀ q,v.ownBlock=some q→q<w.heap.size:=by
 obtain⟨a,len,cap,rfl⟩:=okWide_slice ht h
 intro q hq
 cases a with
 | none=>cases hq
 | some a =>
  have h2:len≤cap∧(cap:Int)≤IntKind.i64.max∧w.has P r base a e cap:=by
   simp only[Value.okWide,ht,Cell.okWide]at h
   simpa [Cell.ok,ht]using h
  obtain⟨_,_,_,_,row,cells,hs,_⟩:=h2
  obtain rfl:a.block=q:=Option.some.inj hq
  unfold World.shape? at hs
  by_cases hlt:a.block<w.heap.size
  ·exact hlt
  ·rw[Array.getElem?_eq_none (by omega)]at hs
   cases hs
end Go.Proofs.YtmhojfpidedjeaaGreatDoor
