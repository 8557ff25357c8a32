import Derived.Test.YtmhojfpidedjeaaGreatDoorTp39
import Derived.ChangeAlike
import Derived.RangeFuncNested
import Derived.RangeFuncBound
import Derived.RangeFuncCalls
import Derived.RangeFuncLeaves
import Derived.Shelf.Abstract
import Derived.Shelf.RegionOpen
import Derived.OwnWalkIn
import Derived.TacticsInMore
import Derived.LoopNIn
import Derived.LoopIn
namespace Go.Proofs.YtmhojfpidedjeaaGreatDoor
open Go.RowKit Go.Lib
set_option linter.unusedVariables false
set_option maxHeartbeats 16000000
set_option maxRecDepth 100000
structure MadeF (f:FnV):Prop where
 params:0≤f.params∧f.params≤4
 blocks:1≤f.blocks.length∧f.blocks.length≤9
 head:∀ k,f.blocks[0]? = some k→k.phis=[]
 phis:∀ k∈f.blocks,k.phis.length≤3∧∀ p∈k.phis,(0≤p.dst∧p.dst<700)∧p.ins.length≤9∧∀ y∈p.ins,(0≤y.1∧y.1<(f.blocks.length:Int))∧0≤y.2∧y.2<700
 ins:∀ k∈f.blocks,∀ x∈k.ins,Yq 700 x
 total:(f.blocks.map fun b=>b.ins.length).sum≤700
 terms:∀ k∈f.blocks,Y6 700 f.blocks.length k.term
def Zhq (w:World) (f:FnV):Prop:=∀ k∈f.blocks,(∀ x∈k.ins,∀ q,x.av.ownBlock=some q→q<w.heap.size)∧(∀ q,k.term.argsv.ownBlock=some q→q<w.heap.size)∧∀ q,k.term.tov.ownBlock=some q→q<w.heap.size
theorem MadeF.of {x : Int} {ph:List Int} {n c:Nat} {m : Zj} {bv:Value} (h:Xn x ph n c m) (hl:m.bks.length=n) (hn:1≤n∧n≤9) (hc:c≤216) (hx:0≤x∧x≤4) (hg:ZeE m):MadeF ⟨m.params,m.bks,bv⟩:=by
 have ht:=h.total;have hb:=h.next;have hp:m.params=x:=h.params;refine⟨by show 0≤m.params∧m.params≤4;omega,by show 1≤m.bks.length∧m.bks.length≤9;omega,fun k hk=>?_,fun k hk=>⟨?_,fun p hp=>?_⟩,fun k hk y hy=>(hg.ins k hk y hy).mono (by omega),?_,fun k hk=>?_⟩
 ·exact List.length_eq_zero_iff.1 (by have:=h.cnt 0 k 0 hk h.phs.2.2;omega)
 ·obtain⟨j,hj⟩:=List.getElem?_of_mem hk;have ha:=(List.getElem?_eq_some_iff.1 hj).1;obtain⟨v,hv⟩:∃ v,ph[j]? = some v:=⟨_,List.getElem?_eq_getElem (by rw[h.phs.1];replace ha:j<m.bks.length:=ha;omega)⟩
  have h1:=h.cnt j k v hj hv;have h2:=h.phs.2.1 v (List.mem_of_getElem? hv);omega
 ·have h1:=h.phi k hk p hp;rw[show (⟨m.params,m.bks,bv⟩:FnV).blocks.length=n from hl];exact h1
 ·show m.total≤700
  omega
 ·rw[show (⟨m.params,m.bks,bv⟩:FnV).blocks.length=n from hl];exact h.terms k hk
def ZfL (w:World) (f:FnV):Prop:=(∀ k∈f.blocks,OwnRow fpcells 2 60 0 w k.phv k.phis∧OwnRow ZA 5 51 0 w k.inv k.ins)∧∃ bb n,f.bv=.slice (some ⟨bb,0,none⟩) n n∧HeapIs w bb (f.blocks.flatMap fbcells).toArray 57
theorem Zfm (sv:Value) (l:List Int) (w:World) (hs:Zm w sv l) (H8:∀ q,sv.ownBlock=some q→q<w.heap.size) :
  Calls Tryz.prog 37 #[sv] w (fun e w'=>∃ f:FnV,e=.returned (fv f)∧FnIn w' f∧MadeF f∧Since w w'∧Zhq w' f∧ZfL w' f):=by
 obtain⟨sa,sc,hv⟩:=Zp hs;obtain⟨sl,HC⟩:∃ x,l.length=x:=⟨_,rfl⟩
 rw[HC]at hv;subst hv;have HS:=hid hs;have HU:=hid H8;clear hs HC;go_enter Tryz.func37,Tryz.ntmps37
 go_wp2_with fail
 obtain⟨mb,hW⟩:∃ x,x=w.heap.size+1:=⟨_,rfl⟩
 obtain⟨w1,hO⟩:∃ x,x=((w.alloc (.cells #[.int .i64 0,.slice none 0 0] 24)).alloc (.cells #[.slice sa sl sc,.int .i64 0,.int .i64 0,.slice none 0 0,.int .i64 0,.slice none 0 0] 101)):=⟨_,rfl⟩
 have HW:=zH (HeapIs w1 w.heap.size #[.int .i64 0,.slice none 0 0] 24) (by rw[hO];exact (HeapIs.new _ _ _).keep ((Since.refl _).alloc _))
 have td:=zH (Since w w1) (by rw[hO];exact ((Since.refl _).alloc _).alloc _)
 have H1:=hid (show MkOk (fun q=>q=w.heap.size) mb (.slice none 0 0) (.slice sa sl sc) l mk0 w1 from by
  have hz:(w.alloc (.cells #[.int .i64 0,.slice none 0 0] 24)).heap.size=w.heap.size+1:=by simp
  have h:=ZgQ (C:=fun q=>q=w.heap.size) (w:=w.alloc (.cells #[.int .i64 0,.slice none 0 0] 24)) (HS.out.keep ((Since.refl _).alloc _)) (fun q hq=>by have:=HU.out q hq;omega) (fun q hq=>⟨by omega,fun e=>by have:=HU.out q e;omega⟩) (HeapIs.new _ #[.slice sa sl sc,.int .i64 0,.int .i64 0,.slice none 0 0,.int .i64 0,.slice none 0 0] _);rw[hz]at h;rw[hO,hW];exact h)
 rw[←hO,←hW];have hE:=hid hW;clear hO hW;refine (Zz H1.out 5 (by decide) (by decide)).mono ?_;rintro e w2 ⟨m2,⟨x,rfl,⟨h8,H6⟩,hY⟩,h2,mv2⟩;have hm:HeapIs w2 mb #[.slice sa sl sc,.int .i64 m2.at_,.int .i64 m2.params,.slice none 0 0,.int .i64 m2.next,m2.livev] 101:=h2.made;have HH:HeapIs ((w2.setCell ⟨mb,2,none⟩ (.int .i64 x)).setCell ⟨mb,4,none⟩ (.int .i64 x)) mb #[.slice sa sl sc,.int .i64 m2.at_,.int .i64 x,.slice none 0 0,.int .i64 x,m2.livev] 101:=(hm.set 2 (.int .i64 x)).set 4 (.int .i64 x);have t3:Turn (fun q=>q=mb) w2 ((w2.setCell ⟨mb,2,none⟩ (.int .i64 x)).setCell ⟨mb,4,none⟩ (.int .i64 x)):=((Turn.refl (fun q=>q=mb) w2).setCell (p:=⟨mb,2,none⟩) rfl _).setCell (p:=⟨mb,4,none⟩) rfl _;have H3:=hid (h2.setHead (p:=x) (next':=x) HH t3 (by rw[hY];exact h8) ⟨h8,by omega,Int.le_refl _⟩);have tr:=hm.cell 2;have tq:=hm.cell 4;have tm:=hm.lt;have tp:=hm.frozen;have HR:m2.at_=1:=by rw[hY];rfl
 have Hn:m2.bks=[]∧m2.livev=.slice none 0 0∧m2.live=[]:=by rw[hY];exact⟨rfl,rfl,rfl⟩
 have hJ:=hid (And.intro HR Hn);have Hp:=zH (Since w ((w2.setCell ⟨mb,2,none⟩ (.int .i64 x)).setCell ⟨mb,4,none⟩ (.int .i64 x))) (t3.toSince (mv2.turn.toSince td.out fun k hk e=>by have h2:=Q9 e;have:=hE.out;omega) fun k hk e=>by have:=hE.out;omega)
 have Hs:=hid ((HW.out.turn mv2.turn (fun ho=>(H1.out.aside w.heap.size rfl).2 ho)).turn t3 (by have:=hE.out;omega))
 clear hm HH t3 hY h2 mv2 HR Hn;go_wp2_with fail
 obtain⟨w3,Hz⟩:∃ y,y=((w2.setCell ⟨mb,2,none⟩ (.int .i64 x)).setCell ⟨mb,4,none⟩ (.int .i64 x)):=⟨_,rfl⟩
 rw[←Hz]at H3 Hs Hp ⊢;clear Hz;refine (Zz H3.out 9 (by decide) (by show m2.at_≤_;have:=hJ.out.1;omega)).mono ?_;rintro e w4 ⟨m4,⟨y,rfl,⟨H2,H0⟩,hX⟩,h4,mv4⟩;have HQ:m4.at_=2:=by rw[hX];show m2.at_+1=2;rw[hJ.out.1]
 have HP:m4.bks=[]:=by rw[hX];exact hJ.out.2.1
 have hV:m4.next=x∧m4.params=x∧m4.livev=.slice none 0 0∧m4.live=[]:=by rw[hX];exact⟨rfl,rfl,hJ.out.2.2.1,hJ.out.2.2.2⟩
 have H4:=hid h4;have Ho:=zH (Since w w4) (mv4.turn.toSince Hp.out fun k hk e=>by have h2:=KZ (m:={ m2 with params:=x,next:=x }) hJ.out.2.2.1 hJ.out.2.1 e;have:=hE.out;omega)
 have Hr:=hid (Hs.out.turn mv4.turn (fun ho=>(H3.out.aside w.heap.size rfl).2 ho))
 have hA:=zH (m4.at_=2∧m4.bks=[]∧(m4.next=x∧m4.params=x)∧m4.livev=.slice none 0 0∧m4.live=[]) ⟨HQ,HP,⟨hV.1,hV.2.1⟩,hV.2.2⟩;have h6:=zH (w.heap.size<w4.heap.size) (by have:=Hr.out.lt;exact this);clear h4 mv4 hX HQ HP hV H3 Hs H1 HW;go_wp2_with fail
 obtain⟨n,hn⟩:∃ n:Nat,1+y=(n:Int):=⟨(1+y).toNat,by omega⟩
 have hF:1≤n∧n≤9:=by omega
 rw[hn];clear hn H2 H0;refine (Zdk H4.out (by have:=hA.out.1;omega) n hF).mono ?_;rintro e w5 ⟨tb,rows,m5,a,rfl,hT,ha,HO⟩;have HT:=hid hT;have tf:=hid HO;have HV:=zH (Since w w5) (HT.out.mv.turn.toSince Ho.out fun k hk e=>by have h2:=KZ hA.out.2.2.2.1 hA.out.2.1 e;have:=hE.out;omega);have Hq:=hid (Hr.out.turn hT.mv.turn (fun ho=>(H4.out.aside w.heap.size rfl).2 ho))
 clear hT HO H4 Hr;have Hj:(Tryz.prog.info? 57).map (fun i=>(i.zero,i.size,i.bytes))=some (some (.agg #[.slice none 0 0,.slice none 0 0,.int .i64 0,.slice none 0 0,.slice none 0 0,.int .i32 0]),6,112):=by kernel_rfl
 obtain⟨ti,HA,Hy,Hx,Hw⟩:=info_parts Hj;have TI:=hid (And.intro HA (And.intro Hy (And.intro Hx Hw)));have Hh:HeapIs w5 mb #[.slice sa sl sc,.int .i64 m5.at_,.int .i64 m5.params,.slice none 0 0,.int .i64 m5.next,m5.livev] 101:=HT.out.ok.made;have hN:=hid Hh;clear Hj HA Hy Hx Hw Hh;go_upto_block 0 with (refine wpList_make_full _ rfl (.tmp 55) (.tmp 55) 22 rfl w5.heap.size 57 ti (.agg #[.slice none 0 0,.slice none 0 0,.int .i64 0,.slice none 0 0,.slice none 0 0,.int .i32 0]) 6 Tryz.underlying22 TI.out.1 TI.out.2.1 TI.out.2.2.1 .i64 .i64 _ _ n rfl rfl rfl rfl (by rw[TI.out.2.2.2];omega) (by unfold maxLen;omega) (Nat.le_refl _) ?_;intro w6 hl hg;have hC:=WA rfl (by decide) hl hg;have hd:=hid hC;have hL:=hN.out.keep hC.1;have tc:=hL.cell 3;have H9:=hL.lt;have ta:=hL.frozen;clear hL hC hl hg)
 obtain⟨w7,hS⟩:∃ y,y=w6.setCell ⟨mb,3,none⟩ (.slice (some ⟨w5.heap.size,0,none⟩) n n):=⟨_,rfl⟩
 have t7:Turn (fun q=>q=mb) w6 w7:=by rw[hS];exact (Turn.refl (fun q=>q=mb) w6).setCell (p:=⟨mb,3,none⟩) rfl _
 have Hg:HeapIs w7 mb #[.slice sa sl sc,.int .i64 m5.at_,.int .i64 m5.params,.slice (some ⟨w5.heap.size,0,none⟩) n n,.int .i64 m5.next,m5.livev] 101:=by rw[hS];exact (hN.out.keep hd.out.1).set 3 _
 have Hi:m5.bks=[]:=by
  have h1:=HT.out.mv.len;rw[hA.out.2.1]at h1;exact List.length_eq_zero_iff.1 h1
 have h0:(List.replicate n fb0).flatMap fbcells=(List.replicate n (Value.agg #[.slice none 0 0,.slice none 0 0,.int .i64 0,.slice none 0 0,.slice none 0 0,.int .i32 0]).cells.toList).flatten:=by
  rw[List.flatMap_def,List.map_replicate];rfl
 have HG:¬ w5.heap.size=mb:=fun e=>by have:=hN.out.lt;omega
 have H7:=hid (MkOk.setBlocks (C:=fun q=>q=w.heap.size) (n:=n) (bb:=w5.heap.size) (HT.out.ok.swapC (C':=fun q=>q=w.heap.size) (T:=fun _=>False) (Turn.since (Since.refl _)) (fun q _ e=>e.elim) (fun q hq=>⟨.inl (.inl hq),by rw[hq];exact Hq.out.lt⟩)) Hi (by omega) (Nat.le_refl _) (by rw[h0];exact hd.out.2.turn t7 HG) Hg ((Turn.since (S:=fun q=>q=mb) hd.out.1).trans t7));have hM:∀ q,CE [⟨w.heap.size,#[.int .i64 0,.slice none 0 0],24⟩] q→q=w.heap.size:=fun q hq=>by
  obtain⟨x,hx,H5⟩:=hq;rw[←H5,List.mem_singleton.1 hx]
 have hD:=hid (show MSt w [⟨w.heap.size,#[.int .i64 0,.slice none 0 0],24⟩] mb w5.heap.size tb (.slice sa sl sc) l n rows { m5 with bks:=List.replicate n fb0 } w7 from by
  have Hm:Own mb (.slice (some ⟨w5.heap.size,0,none⟩) n n) { m5 with bks:=List.replicate n fb0 }=fun q=>Own mb (.slice (some ⟨w5.heap.size,0,none⟩) n n) { m5 with bks:=List.replicate n fb0 } q:=rfl
  have hZ:∀ q,Own mb (.slice none 0 0) m5 q→w.heap.size≤q:=fun q hq=>by
   rcases HT.out.mv.new q hq with h1|h1
   ·have h2:=KZ hA.out.2.2.2.1 hA.out.2.1 h1;have:=hE.out;omega
   ·have:=h6.out;omega
  have HZ:∀ q,Own mb (.slice (some ⟨w5.heap.size,0,none⟩) n n) { m5 with bks:=List.replicate n fb0 } q→w.heap.size≤q:=by
   rintro q (hq|hq|hq|⟨b,hb,hq⟩)
   ·exact hZ q (.inl hq)
   ·have hq:w5.heap.size=q:=Option.some.inj hq;rw[←hq];exact Nat.le_trans (Nat.le_of_lt h6.out) HT.out.mv.turn.size
   ·exact hZ q (.inr (.inr (.inl hq)))
   ·rw[(List.mem_replicate.1 hb).2]at hq;rcases hq with hq|hq<;>cases hq
  have HD:HeapIs w7 w.heap.size #[.int .i64 0,.slice none 0 0] 24:=(Hq.out.keep hd.out.1).turn t7 (by have:=hE.out;omega);refine⟨H7.out.swapC (T:=fun _=>False) (Turn.refl _ _) (fun q _ e=>e.elim) (fun q hq=>⟨.inl (hM q hq),by rw[hM q hq];exact HD.lt⟩),fun x hx=>?_,?_,?_,HZ,by simp,HT.out.len,HT.out.inr,HT.out.few⟩
  ·rw[List.mem_singleton.1 hx];exact⟨HD,Nat.le_refl _⟩
  ·have hU:∀ q,CR (fun q=>q=w.heap.size) tb rows q→¬ Own mb (.slice none 0 0) m5 q∧q<w5.heap.size:=fun q hq=>⟨(HT.out.ok.aside q hq).2,(HT.out.ok.aside q hq).1⟩
   have HF:∀ q,CR (fun q=>q=w.heap.size) tb rows q→w.heap.size<q→¬ Zx (CE [⟨w.heap.size,#[.int .i64 0,.slice none 0 0],24⟩]) mb (.slice (some ⟨w5.heap.size,0,none⟩) n n) { m5 with bks:=List.replicate n fb0 } q:=by
    rintro q hq HI ((hi|hi|hi|⟨b,hb,hi⟩)|hi)
    ·exact (hU q hq).1 (.inl hi)
    ·cases hi;exact absurd (hU _ hq).2 (Nat.lt_irrefl _)
    ·exact (hU q hq).1 (.inr (.inr (.inl hi)))
    ·rw[(List.mem_replicate.1 hb).2]at hi;rcases hi with hi|hi<;>cases hi
    ·rw[hM q hi]at HI;exact absurd HI (Nat.lt_irrefl _)
   have h4:=h6.out;have Hf:∀ q,CR (fun q=>q=w.heap.size) tb rows q→¬ q=mb:=fun q hq e=>(hU q hq).1 (.inl e)
   refine⟨(HT.out.box.keep hd.out.1).turn t7 (Hf tb (.inr (.inl rfl))),HF tb (.inr (.inl rfl)) (by have:=HT.out.low;omega),fun r hr=>?_⟩;have ho:=HT.out.own r hr;have HK:=World.ownsRow.lt ho;refine⟨((XI ho).keep hd.out.1).turn t7 fun q hq=>Hf q (.inr (.inr ⟨r,hr,hq⟩)),fun q hq=>⟨HF q (.inr (.inr ⟨r,hr,hq⟩)) ?_,?_⟩⟩
   ·have:=(HK q hq).1;omega
   ·have h1:=(HK q hq).2;have h2:=hd.out.1.size;have h3:=t7.size;omega
  ·exact t7.toSince ((HV.out).trans hd.out.1) fun k hk e=>by have:=hE.out;omega)
 have hP:=hid (show m5.at_≤102∧m5.next=x∧m5.params=x∧m5.live=[] from by
  have h1:=HT.out.mv.at_;have h2:=HT.out.mv.next;have h3:=HT.out.mv.live;rw[hA.out.1]at h1;rw[hA.out.2.2.1.1]at h2;rw[hA.out.2.2.2.2]at h3;refine⟨by omega,by omega,HT.out.mv.same.1.trans hA.out.2.2.1.2,List.length_eq_zero_iff.1 ?_⟩;simp only[List.length_nil]at h3;omega)
 rw[←hS];clear hM hd tc H9 ta t7 Hg h0 HG hN H7 HV Hq HT h6 Ho hA TI Hi;obtain⟨bb,Hm⟩:∃ bb,bb=w5.heap.size:=⟨_,rfl⟩
 rw[←Hm]at hD ⊢;clear Hm hS;have HX:=hid (And.intro h8 H6);refine ZgP w [bxR w.heap.size] sa sl sc l rows { m5 with bks:=List.replicate n fb0 } w.heap.size mb bb n tb _ _ _ (Zv rfl rfl (Za rfl (Za rfl (Za rfl (Za rfl (Za rfl (Zo _))))))) hD.out hF (fun k hk=>by rw[(List.mem_replicate.1 hk).2];exact⟨rfl,rfl⟩) ?_;clear hD;intro a1 w8 bks hf he hB Hl;obtain⟨u,ht,hu⟩:=Zr hf;obtain⟨g1,g2,s2,s3,s4,s5,g3⟩:=hf;have e2:=hu 2 _ s2;have e3:=hu 3 _ s3;have e4:=hu 4 _ s4;have e5:=hu 5 _ s5;rw[e2,e3,e4,e5]at ht;subst ht;clear hu g1 g2 g3 e2 s2 e3 s3 e4 s4 e5 s5;have hH:=hid he;have hG:=hid hB;have hI:=hid Hl;obtain⟨t3,HB,z0,z1,z2⟩:=info_parts Tryz.info3;have TI3:=hid (And.intro HB (And.intro z0 (And.intro z1 z2)));clear he hB Hl HB z0 z1 z2;go_upto_block 2 with (refine wpList_make_full _ rfl (.tmp 78) (.tmp 78) 32 rfl _ 3 t3 (.int .i64 0) 1 Tryz.underlying32 TI3.out.1 TI3.out.2.1 TI3.out.2.2.1 .i64 .i64 _ _ n rfl rfl rfl rfl (by rw[TI3.out.2.2.2];omega) (by unfold maxLen;omega) (Nat.le_refl _) ?_;intro w9 hl hg;have hC:=WA rfl (by decide) hl hg;have hd:=hid hC;clear hl hg hC)
 have hR:=zH (MSt w (exP w.heap.size w8.heap.size (List.replicate n 0)) mb bb tb (.slice sa sl sc) l n rows { m5 with bks:=bks } w9) (MSt.addP hH.out hd.out.1 (by have h:=hd.out.2;rw[show (List.replicate n (Value.int .i64 0).cells.toList).flatten=(List.replicate n (0:Int)).map (Value.int .i64) from by rw[List.map_replicate];exact WF n _]at h;exact h) (Nat.le_refl _))
 have Ht:=hid (show PhI (List.replicate n 0) n n 0 { m5 with bks:=bks } from by
  refine⟨by simp,fun v hv=>?_,by rw[List.getElem?_replicate,if_pos (by omega)],fun k hk p hp=>?_,fun j k v _ hk hv=>?_,fun k hk=>?_⟩
  ·rw[(List.mem_replicate.1 hv).2];omega
  ·rw[(hI.out k hk).1]at hp;cases hp
  ·rw[List.getElem?_replicate]at hv;split at hv
   ·rw[(hI.out k (List.mem_of_getElem? hk)).1];exact Option.some.inj hv
   ·cases hv
  ·rw[(hI.out k (List.mem_of_getElem? hk)).1];rfl)
 have Hv:=zH (Hd x 102 0 { m5 with bks:=bks }) ⟨hP.out.1,by have:=hP.out.2.1;show m5.next≤_;omega,hP.out.2.2.1,hP.out.2.2.2,fun k hk=>(hI.out k hk).2⟩;obtain⟨pb,HE⟩:∃ z,z=w8.heap.size:=⟨_,rfl⟩
 rw[←HE]at hR ⊢;clear hd hH hI hP TI3 HE;refine Zgf w sa sl sc l rows { m5 with bks:=bks } w.heap.size mb bb n tb pb (List.replicate n 0) x _ _ _ (Zv rfl rfl (Za rfl (Za rfl (Za rfl (Za rfl (Za rfl (Za rfl (Zo _)))))))) hR.out hF (by have:=HX.out;omega) hG.out Ht.out (fun j v hj hv=>by
  rw[List.getElem?_replicate]at hv;split at hv
  ·exact (Option.some.inj hv).symm
  ·cases hv) (Hv.out.more (by omega) (by omega)) ?_
 clear hR hG Ht Hv;intro a1 w2 ph m hf he hB He HL;obtain⟨u,ht,hu⟩:=Zr hf;obtain⟨g1,g2,s2,s3,s4,s5,s7,g3⟩:=hf;have e2:=hu 2 _ s2;have e3:=hu 3 _ s3;have e4:=hu 4 _ s4;have e5:=hu 5 _ s5;have e7:=hu 7 _ s7;rw[e2,e3,e4,e5,e7]at ht;subst ht;clear hu g1 g2 g3 e2 s2 e3 s3 e4 s4 e5 s5 e7 s7;have hH:=hid he;have hG:=hid hB;have Hk:(Tryz.prog.info? 4).map (fun i=>(i.zero,i.size,i.bytes))=some (some (.bool false),1,1):=by kernel_rfl
 obtain⟨tbi,Hc,Hb,Ha,h9⟩:=info_parts Hk;have TIB:=hid (And.intro Hc (And.intro Hb (And.intro Ha h9)));have Hu:=hid (Lp.start He HL (by omega) (by omega));clear he hB He HL Hk Hc Hb Ha h9;go_upto_block 6 with (refine wpList_make_full _ rfl (.tmp 135) (.tmp 135) 129 rfl _ 4 tbi (.bool false) 1 Tryz.underlying129 TIB.out.1 TIB.out.2.1 TIB.out.2.2.1 .i64 .i64 _ _ n rfl rfl rfl rfl (by rw[TIB.out.2.2.2];omega) (by unfold maxLen;omega) (Nat.le_refl _) ?_;intro w10 hl hg;have hC:=WA rfl (by decide) hl hg;have hd:=hid hC;clear hl hg hC)
 have hQ:=zH (MSt w (exD w.heap.size pb w2.heap.size ph (dnL n 0)) mb bb tb (.slice sa sl sc) l n rows m w10) (MSt.addD hH.out hd.out.1 (by have h:=hd.out.2;rw[show (List.replicate n (Value.bool false).cells.toList).flatten=(dnL n 0).map Value.bool from by rw[←Zft,List.map_replicate];exact WF n _]at h;exact h) (Nat.le_refl _))
 obtain⟨db,HN⟩:∃ z,z=w2.heap.size:=⟨_,rfl⟩
 rw[←HN]at hQ ⊢;clear hd hH TIB HN;refine Zfi w sa sl sc l rows m w.heap.size mb bb n tb pb db ph x _ _ _ (Zv rfl rfl (Za rfl (Za rfl (Za rfl (Za rfl (Za rfl (Za rfl (Za rfl (Zo _))))))))) hQ.out hF tf.out hG.out Hu.out ?_;clear hQ hG Hu m;intro a1 w2 m hf he hB HJ;obtain⟨u,ht,hu⟩:=Zr hf;obtain⟨g1,g2,s2,s3,s4,s5,s7,s11,g3⟩:=hf;have e2:=hu 2 _ s2;have e3:=hu 3 _ s3;have e4:=hu 4 _ s4;have e5:=hu 5 _ s5;have e7:=hu 7 _ s7;have e11:=hu 11 _ s11;rw[e2,e3,e4,e5,e7,e11]at ht;subst ht;clear hu g1 g2 g3 e2 s2 e3 s3 e4 s4 e5 s5 e7 s7 e11 s11;have hD:=hid he;have h7:=hid (Xn.start HJ he.len hF.2 (by have:=HX.out;omega));clear he hB HJ;go_upto_block 24 with fail
 refine Zgi w (exD w.heap.size pb db ph (dnL n n)) sa sl sc l rows m w.heap.size mb bb n tb pb ph x _ _ _ (Zv rfl rfl (Za rfl (Za rfl (Za rfl (Za rfl (Za rfl (Zo _))))))) hD.out hF (fun z hz=>by
  simp only[exD,List.mem_cons,List.not_mem_nil,or_false]at hz;rcases hz with rfl|rfl|rfl
  ·show (24:TypeId)≠71;decide
  ·show (3:TypeId)≠71;decide
  ·show (4:TypeId)≠71;decide) (by simp[exD]) h7.out ?_
 clear hD h7 m;intro a1 w2 m c hf he HM hc;obtain⟨u,ht,hu⟩:=Zr hf;obtain⟨g1,g2,s2,s3,s4,s7,g3⟩:=hf;have e2:=hu 2 _ s2;have e3:=hu 3 _ s3;have e4:=hu 4 _ s4;have e7:=hu 7 _ s7;rw[e2,e3,e4,e7]at ht;subst ht;clear hu g1 g2 g3 e2 s2 e3 s3 e4 s4 e7 s7;have hD:=hid he;have h7:=hid HM;have h5:=he.box;have Hn:=h5.cell 2;have ts:=h5.cell 3;have tn:=h5.lt;have hK:HeapIs w2 w.heap.size #[.int .i64 0,.slice none 0 0] 24:=(he.boxes (bxR w.heap.size) (by simp[exD])).1;have tl:=hK.cell 0;have tk:=hK.cell 1;have th:=hK.lt;have tj:=hK.frozen;have te:=hid hK;clear he HM h5 hK;go_wp2_with fail
 have HY:=(te.out.set 0 (.int .i64 m.params)).set 1 (.slice (some ⟨bb,0,none⟩) n n);try simp only[Exit.inBlock,Exit.then]
 refine bodyPost_ret (results_cell_row rfl _ _ w.heap.size 24 #[.int .i64 m.params,.slice (some ⟨bb,0,none⟩) n n] (0,0) _ rfl HY Tryz.underlying24 rfl (by kernel_rfl)) rfl ?_;have t:Turn (fun q=>q=w.heap.size) w2 ((w2.setCell ⟨w.heap.size,0,none⟩ (.int .i64 m.params)).setCell ⟨w.heap.size,1,none⟩ (.slice (some ⟨bb,0,none⟩) n n)):=((Turn.refl (fun q=>q=w.heap.size) w2).setCell (p:=⟨w.heap.size,0,none⟩) rfl _).setCell (p:=⟨w.heap.size,1,none⟩) rfl _;have hh:=hD.out.beside (ex':=[]) t (fun q _ e=>⟨bxR w.heap.size,by simp[exD],e.symm⟩) (fun z hz=>by cases hz);exact⟨⟨m.params,m.bks,.slice (some ⟨bb,0,none⟩) n n⟩,rfl,hh.fn,MadeF.of h7.out hh.len hF hc (by have:=HX.out;omega) hh.ok.good,hh.old,fun k hk=>⟨fun y hy q hq=>((hh.ok.each k hk).arg y hy).2 q hq |>.2,fun q hq=>((hh.ok.each k hk).term.2.1 q hq).2,fun q hq=>((hh.ok.each k hk).term.2.2 q hq).2⟩,fun k hk=>⟨(hh.ok.each k hk).phis,(hh.ok.each k hk).ins⟩,bb,n,rfl,hh.blkAt⟩
def Two (p q:Bool) (w:World) (e:Ending) (w':World):Prop:=e=.returned (.tuple #[.bool p,.bool q])∧w=w'
abbrev Key:Type:=Kl × Int
def key (x:PlV):Key:=(x.m,x.src)
noncomputable instance keyEq:DecidableEq Key:=Classical.typeDecidableEq _
section
variable (l:List PlV)
def kk (k:Fin l.length):Key:=key (l.get k)
end
open Go.RowKit Go.ChangeShapes Go.WideShapes
theorem Zeb {P : Program} {w : World} {r : Reach} {base:Nat} {t e:TypeId} {v : Value} (ht:P.underlying t=some (.slice e)) (h:Value.okWide P w r base t v):∀ q,v.ownBlock=some q→q<w.heap.size:=by
 obtain⟨a,len,cap,rfl⟩:=okWide_slice ht h;intro q hq
 cases a with
 | none=>cases hq
 | some a =>
  have h2:len≤cap∧(cap:Int)≤IntKind.i64.max∧w.has P r base a e cap:=by
   simp only[Value.okWide,ht,Cell.okWide]at h;simpa [Cell.ok,ht]using h
  obtain⟨_,_,_,_,row,cells,hs,_⟩:=h2;obtain rfl:a.block=q:=Option.some.inj hq;unfold World.shape? at hs;by_cases ha:a.block<w.heap.size
  ·exact ha
  ·rw[Array.getElem?_eq_none (by omega)]at hs
   cases hs
end Go.Proofs.YtmhojfpidedjeaaGreatDoor
