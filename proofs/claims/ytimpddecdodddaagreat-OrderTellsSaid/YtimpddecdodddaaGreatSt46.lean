import Derived.Test.YtimpddecdodddaaGreatSt10
import Derived.Test.YtimpddecdodddaaGreatSt15
import Derived.Test.YtimpddecdodddaaGreatSt45
namespace Go.Proofs.YtimpddecdodddaaGreat
open Go.Proofs.Tryz Go.RowKit Go.Lib
set_option linter.unusedVariables false
set_option maxHeartbeats 8000000
set_option maxRecDepth 100000
theorem zl {P:Prop} (h:P:=by
 go_enter func17,ntmps17
 go_wp2_with (
  refine wpList_store_row rfl 58 _ _ rfl (w.heap.size+1) #[.int .i64 1,.int .i64 0,.int .i64 0] rfl rfl 58 #[.int .i64 0,.int .i64 0,.int .i64 0] (hg.out) (by kernel_rfl) rfl (by rw[←Array.all_toList];rfl) ?_;obtain⟨w9,hd⟩:∃ x,x=(((w.alloc (.cells #[.int .i64 params,.int .i64 k,.int .i64 slots,.slice ba blocks.length bc] 27)).alloc (.cells #[.int .i64 0,.int .i64 0,.int .i64 0] 58))).setRow (w.heap.size+1) #[.int .i64 1,.int .i64 0,.int .i64 0]:=⟨_,rfl⟩
  rw[←hd];have ha:HeapIs w9 (w.heap.size+1) #[.int .i64 1,.int .i64 0,.int .i64 0] 58:=by rw[hd];exact ZO (hg.out) _
  have he:Since w w9:=by rw[hd];exact (ZI (S:=fun q=>q=w.heap.size+1) rfl _).toSince (hv.out) (fun q hq e=>by omega)
  clear hd;have ce0:w9.cell? ⟨w.heap.size+1,0,none⟩=some (.int .i64 1):=ha.cell 0;have ce1:w9.cell? ⟨w.heap.size+1,1,none⟩=some (.int .i64 0):=ha.cell 1;have ce2:w9.cell? ⟨w.heap.size+1,2,none⟩=some (.int .i64 0):=ha.cell 2;have hA:=ha.lt;have hf:=hid he;clear ha he)
 exact bodyPost_ret (v:=.agg #[.int .i64 1,.int .i64 0,.int .i64 0]) (by simp[results,Tryz.results17,go_sem,ce0,ce1,ce2]) rfl ⟨rfl,hf.out⟩):P:=h
theorem zm {P:Prop} (h:P:=by
 go_wp2_with (
  refine wpList_store_row rfl 58 _ _ rfl (w.heap.size+1) #[.int .i64 2,.int .i64 0,.int .i64 0] rfl rfl 58 #[.int .i64 0,.int .i64 0,.int .i64 0] (hg.out) (by kernel_rfl) rfl (by rw[←Array.all_toList];rfl) ?_;obtain⟨w9,hd⟩:∃ x,x=(((w.alloc (.cells #[.int .i64 params,.int .i64 k,.int .i64 slots,.slice ba blocks.length bc] 27)).alloc (.cells #[.int .i64 0,.int .i64 0,.int .i64 0] 58))).setRow (w.heap.size+1) #[.int .i64 2,.int .i64 0,.int .i64 0]:=⟨_,rfl⟩
  rw[←hd];have ha:HeapIs w9 (w.heap.size+1) #[.int .i64 2,.int .i64 0,.int .i64 0] 58:=by rw[hd];exact ZO (hg.out) _
  have he:Since w w9:=by rw[hd];exact (ZI (S:=fun q=>q=w.heap.size+1) rfl _).toSince (hv.out) (fun q hq e=>by omega)
  clear hd;have ce0:w9.cell? ⟨w.heap.size+1,0,none⟩=some (.int .i64 2):=ha.cell 0;have ce1:w9.cell? ⟨w.heap.size+1,1,none⟩=some (.int .i64 0):=ha.cell 1;have ce2:w9.cell? ⟨w.heap.size+1,2,none⟩=some (.int .i64 0):=ha.cell 2;have hA:=ha.lt;have hf:=hid he;clear ha he)
 exact bodyPost_ret (v:=.agg #[.int .i64 2,.int .i64 0,.int .i64 0]) (by simp[results,Tryz.results17,go_sem,ce0,ce1,ce2]) rfl ⟨rfl,hf.out⟩):P:=h
theorem kU {P:Prop} (h:P:=by simp[results,Tryz.results17,go_sem,ce0,ce1,ce2]):P:=h
theorem zai {P:Prop} (h:P:=by rw[hn.out,if_pos (by omega)]):P:=h
def GotP (p:Z2) (w:World) (e:Ending) (w':World):Prop:=e=.returned (.agg #[.int .i64 (funcE p).1,.int .i64 ((funcE p).2.1:Nat),.int .i64 ((funcE p).2.2:Nat)])∧Since w w'
theorem ZcI (p:Z2) (w:World) (h:Xz w p):Calls prog 17 #[pv p] w (GotP p w):=by
 obtain⟨params,k,slots,blocks,bv⟩:=p;obtain⟨hb,Hx⟩:=h;dsimp only at hb Hx;obtain⟨ba,bc,rfl,HH⟩:=hb.shape;have H:=hid hb;have h9:insSum blocks≤10000000000:=by
  have h1:=Jo 100000 blocks (fun b hm=>by
   obtain⟨j,hj⟩:=List.getElem?_of_mem hm;obtain⟨_,_,x,_,_,hx,_,hP⟩:=RowIn.at H.out (List.getElem?_eq_some_iff.1 hj).1;rw[hj]at hx;cases hx
   exact hP.2.2)
  have h2:blocks.length*100000≤100000*100000:=Nat.mul_le_mul_right _ Hx;omega
 have Hb:∀ j,j≤blocks.length→insSum (blocks.take j)≤insSum blocks:=fun j _=>by
  exact qT
 have hV:=hid Hb;clear hb Hb HH;generalize hF:funcE ⟨params,k,slots,blocks,.slice ba blocks.length bc⟩=F;unfold GotP;rw[hF];obtain⟨fe,fb,fp⟩:=F;have HA:Vr ⟨params,k,slots,blocks,.slice ba blocks.length bc⟩=(if params<0∨4<params∨k<4∨16<k∨slots<0∨16384<slots then 1 else if blocks.length=0 then 14 else if 512<blocks.length∨65536<blocks.length+insSum blocks then 2 else 0):=rfl;have HF:=hid hF;have hn:=hid HA;clear hF HA;unfold funcE at HF;have Hf:∀ c:Int,Vr ⟨params,k,slots,blocks,.slice ba blocks.length bc⟩=c→c≠0→fe=c∧fb=0∧fp=0:=fun c hc h0=>by
  exact y5
 have hr:=hid Hf;clear Hf;have hE:Since w ((w.alloc (.cells #[.int .i64 params,.int .i64 k,.int .i64 slots,.slice ba blocks.length bc] 27)).alloc (.cells #[.int .i64 0,.int .i64 0,.int .i64 0] 58)):=((Since.refl _).alloc _).alloc _;have Hr:HeapIs ((w.alloc (.cells #[.int .i64 params,.int .i64 k,.int .i64 slots,.slice ba blocks.length bc] 27)).alloc (.cells #[.int .i64 0,.int .i64 0,.int .i64 0] 58)) (w.heap.size+1) #[.int .i64 0,.int .i64 0,.int .i64 0] 58:=by
  have:=HeapIs.new (w.alloc (.cells #[.int .i64 params,.int .i64 k,.int .i64 slots,.slice ba blocks.length bc] 27)) #[.int .i64 0,.int .i64 0,.int .i64 0] 58;rw[show (w.alloc (.cells #[.int .i64 params,.int .i64 k,.int .i64 slots,.slice ba blocks.length bc] 27)).heap.size=w.heap.size+1 from by simp]at this;exact this
 have h4:HeapIs ((w.alloc (.cells #[.int .i64 params,.int .i64 k,.int .i64 slots,.slice ba blocks.length bc] 27)).alloc (.cells #[.int .i64 0,.int .i64 0,.int .i64 0] 58)) w.heap.size #[.int .i64 params,.int .i64 k,.int .i64 slots,.slice ba blocks.length bc] 27:=(HeapIs.new _ _ _).keep ((Since.refl _).alloc _);have hv:=hid hE;have hg:=hid Hr;have H0:=hid h4;clear hE Hr h4;unfold pv;dsimp only;by_cases q1:params<0
 ·have hh:=hr.out 1 zai zaJ;obtain⟨rfl,rfl,rfl⟩:=hh;have q1d:decide (params<0)=true:=decide_eq_true q1;exact zl
 have q1d:decide (params<0)=false:=decide_eq_false q1;by_cases q2:4<params
 ·have hh:=hr.out 1 zai zaJ;obtain⟨rfl,rfl,rfl⟩:=hh;have q2d:decide (4<params)=true:=decide_eq_true q2;exact zl
 have q2d:decide (4<params)=false:=decide_eq_false q2;by_cases q3:k<4
 ·have hh:=hr.out 1 zai zaJ;obtain⟨rfl,rfl,rfl⟩:=hh;have q3d:decide (k<4)=true:=decide_eq_true q3;exact zl
 have q3d:decide (k<4)=false:=decide_eq_false q3;by_cases q4:16<k
 ·have hh:=hr.out 1 zai zaJ;obtain⟨rfl,rfl,rfl⟩:=hh;have q4d:decide (16<k)=true:=decide_eq_true q4;exact zl
 have q4d:decide (16<k)=false:=decide_eq_false q4;by_cases q5:slots<0
 ·have hh:=hr.out 1 zai zaJ;obtain⟨rfl,rfl,rfl⟩:=hh;have q5d:decide (slots<0)=true:=decide_eq_true q5;exact zl
 have q5d:decide (slots<0)=false:=decide_eq_false q5;by_cases q6:16384<slots
 ·have hh:=hr.out 1 zai zaJ;obtain⟨rfl,rfl,rfl⟩:=hh;have q6d:decide (16384<slots)=true:=decide_eq_true q6;exact zl
 have q6d:decide (16384<slots)=false:=decide_eq_false q6;have H1:=hid (show ¬ (params<0∨4<params∨k<4∨16<k∨slots<0∨16384<slots) by omega)
 rw[if_neg H1.out]at hn;clear q1 q2 q3 q4 q5 q6;by_cases h0:blocks.length=0
 ·have hh:=hr.out 14 (by rw[hn.out,if_pos h0]) zaJ;obtain⟨rfl,rfl,rfl⟩:=hh;have Hu:((blocks.length:Int)==0)=true:=by simp[h0]
  clear h0;go_enter func17,ntmps17
  go_wp2_with (
   refine wpList_store_row rfl 58 _ _ rfl (w.heap.size+1) #[.int .i64 14,.int .i64 0,.int .i64 0] rfl rfl 58 #[.int .i64 0,.int .i64 0,.int .i64 0] (hg.out) zaF rfl zaj ?_;obtain⟨w9,hd⟩:∃ x,x=(((w.alloc (.cells #[.int .i64 params,.int .i64 k,.int .i64 slots,.slice ba blocks.length bc] 27)).alloc (.cells #[.int .i64 0,.int .i64 0,.int .i64 0] 58))).setRow (w.heap.size+1) #[.int .i64 14,.int .i64 0,.int .i64 0]:=⟨_,rfl⟩
   rw[←hd];have ha:HeapIs w9 (w.heap.size+1) #[.int .i64 14,.int .i64 0,.int .i64 0] 58:=by rw[hd];exact ZO (hg.out) _
   have he:Since w w9:=by rw[hd];exact (ZI (S:=fun q=>q=w.heap.size+1) rfl _).toSince (hv.out) (fun q hq e=>by omega)
   clear hd;have ce0:w9.cell? ⟨w.heap.size+1,0,none⟩=some (.int .i64 14):=ha.cell 0;have ce1:w9.cell? ⟨w.heap.size+1,1,none⟩=some (.int .i64 0):=ha.cell 1;have ce2:w9.cell? ⟨w.heap.size+1,2,none⟩=some (.int .i64 0):=ha.cell 2;have hA:=ha.lt;have hf:=hid he;clear ha he)
  exact bodyPost_ret (v:=.agg #[.int .i64 14,.int .i64 0,.int .i64 0]) kU rfl ⟨rfl,hf.out⟩
 have Hu:((blocks.length:Int)==0)=false:=beq_eq_false_iff_ne.2 zaK;rw[if_neg h0]at hn;clear h0;go_enter func17,ntmps17
 go_wp2
 have HL:=hid h9;clear h9
 go_loop [3,4] (fun n i=>∃ j:Nat,j≤blocks.length∧i=.int .i64 j∧n=.int .i64 ((blocks.length:Int)+((insSum (blocks.take j):Nat):Int))) (fun _ i=>blocks.length-(intOf i).toNat)
 case atStart=>exact⟨0,Nat.zero_le _,rfl,by simp[insSum]⟩
 case round =>
  obtain⟨j,hj,rfl,rfl⟩:=hrel;by_cases hQ:j<blocks.length
  ·obtain⟨B,off,x,rfl,hB,hx,hc,hP⟩:=RowIn.at H.out hQ;obtain⟨xins,xinsv,⟨eop,ea,eb,eto,etov,eimm⟩⟩:=x;obtain⟨hw,hC,hK⟩:=hP;dsimp only at hw hC hK;obtain⟨ia,ic,rfl,Hc⟩:=hw.shape;unfold maxLen at Hc;have H5:(((w.alloc (.cells #[.int .i64 params,.int .i64 k,.int .i64 slots,.slice (some ⟨B,off,none⟩) blocks.length bc] 27)).alloc (.cells #[.int .i64 0,.int .i64 0,.int .i64 0] 58))).cell? ⟨B,off+j*6,none⟩=some (.slice ia xins.length ic):=(hv.out.cell (p:=⟨B,off+j*6,none⟩) hB).trans (hc 0 (by show 0<6;decide));have H7:B<(((w.alloc (.cells #[.int .i64 params,.int .i64 k,.int .i64 slots,.slice (some ⟨B,off,none⟩) blocks.length bc] 27)).alloc (.cells #[.int .i64 0,.int .i64 0,.int .i64 0] 58))).heap.size:=Nat.lt_of_lt_of_le hB hv.out.size;clear hc hB;have Ha:=J7 hx;have hp:=hV.out j zaK;have h4:=hV.out (j+1) zaK;have HU:=hid Ha;have hl:=HL.out;dsimp only at Ha;generalize insSum (blocks.take j)=sj at *
   have H6:sj+xins.length≤10000000000:=zaK
   clear Ha hp h4 hw hC hK hx hl;go_wp2
   go_round
   case rel=>exact⟨j+1,zaK,by go_num,by rw[HU.out];exact congrArg (Value.int .i64) (by push_cast;omega)⟩
   case measure=>simp[intOf];omega
  ·obtain rfl:j=blocks.length:=zaK
   rw[List.take_length];have hp:=HL.out;clear hQ hj;generalize hN:insSum blocks=sN at *;clear hN hV;by_cases h1:512<blocks.length
   ·have hh:=hr.out 2 (by rw[hn.out,if_pos (.inl h1)]) zaJ;obtain⟨rfl,rfl,rfl⟩:=hh;have Ht:decide ((512:Int)<(blocks.length:Int))=true:=decide_eq_true zaK;clear h1;exact zm
   have Ht:decide ((512:Int)<(blocks.length:Int))=false:=decide_eq_false zaK;by_cases h2:65536<blocks.length+sN
   ·have hh:=hr.out 2 (by rw[hn.out,if_pos (.inr h2)]) zaJ;obtain⟨rfl,rfl,rfl⟩:=hh;have Hs:decide ((65536:Int)<(blocks.length:Int)+(sN:Int))=true:=decide_eq_true zaK;clear h1 h2;exact zm
   have Hs:decide ((65536:Int)<(blocks.length:Int)+(sN:Int))=false:=decide_eq_false zaK;rw[if_neg zaK]at hn;have Hg:=HF.out;rw[hn.out,if_pos rfl]at Hg;have HC:=hid Hg;clear Hg hn HF h1 h2 hr HL;go_wp2
   go_loopw [5] (fun i wr2=>∃ j:Nat,j≤blocks.length∧i=.int .i64 j∧(∀ (t:Nat) (y:Zx),t<j→blocks[t]? = some y→Vf k slots blocks.length y=none)∧Since ((w.alloc (.cells #[.int .i64 params,.int .i64 k,.int .i64 slots,.slice ba blocks.length bc] 27)).alloc (.cells #[.int .i64 0,.int .i64 0,.int .i64 0] 58)) wr2) (fun i _=>blocks.length-(intOf i).toNat)
   case atStart=>exact⟨0,Nat.zero_le _,rfl,fun t y ht=>by omega,.refl _⟩
   case round =>
    obtain⟨j,hj,rfl,hI,hM⟩:=hrel;have hY:=hid hI;have HV:=hid hM;have HS:=hid (hv.out.trans hM);have h3:=H0.out.keep hM;have HW:=hid h3;have Hl:=hid (hg.out.keep hM);have kp:wr.cell? ⟨w.heap.size,3,none⟩=some (.slice ba blocks.length bc):=h3.cell 3;have lp:=h3.lt;clear hM hI h3 Ht Hs Hu;by_cases hQ:j<blocks.length
    ·obtain⟨B,off,x,rfl,hB,hx,hc,hP⟩:=RowIn.at H.out hQ;obtain⟨xins,xinsv,⟨eop,ea,eb,eto,etov,eimm⟩⟩:=x;obtain⟨hw,hC,hK⟩:=hP;dsimp only at hw hC hK;obtain⟨ia,ic,rfl,Hc⟩:=hw.shape;obtain⟨ta,tc,rfl⟩:=Zc hC;unfold maxLen at Hc;have hi:=fun t ht=>(HS.out.cell (p:=⟨B,off+j*6+t,none⟩) hB).trans (hc t ht)
     have c0:wr.cell? ⟨B,off+j*6,none⟩=some (.slice ia xins.length ic):=hi 0 zaJ;have c1:wr.cell? ⟨B,off+j*6+1,none⟩=some (.int .i64 eop):=hi 1 zaJ;have c2:wr.cell? ⟨B,off+j*6+2,none⟩=some (.int .i64 ea):=hi 2 zaJ;have c3:wr.cell? ⟨B,off+j*6+3,none⟩=some (.int .i64 eb):=hi 3 zaJ;have c4:wr.cell? ⟨B,off+j*6+4,none⟩=some (.slice ta eto.length tc):=hi 4 zaJ;have c5:wr.cell? ⟨B,off+j*6+5,none⟩=some (.int .i32 eimm):=hi 5 zaJ;have lB:=Nat.lt_of_lt_of_le hB HS.out.size;clear hi hc hB;have Hy:Vf k slots blocks.length ⟨xins,.slice ia xins.length ic,⟨eop,ea,eb,eto,.slice ta eto.length tc,eimm⟩⟩=(match Y3 k slots xins 0 with
      | some x=>some x
      | none=>if endE ⟨eop,ea,eb,eto,.slice ta eto.length tc,eimm⟩ k blocks.length=0 then none else some (endE ⟨eop,ea,eb,eto,.slice ta eto.length tc,eimm⟩ k blocks.length,xins.length)):=rfl
     have He:∀ x,Vf k slots blocks.length ⟨xins,.slice ia xins.length ic,⟨eop,ea,eb,eto,.slice ta eto.length tc,eimm⟩⟩=some x→fe=x.1∧fb=j∧fp=x.2:=fun x HN=>by
      have:=HC.out;rw[V6 0 hx hY.out HN]at this;exact y9
     have HE:=hid Hy;have Hm:=hid He;have HX:=hid hx;have HI:=hid hw;have hT:=fun w2 (hs:Since w w2)=>ZdE ⟨eop,ea,eb,eto,.slice ta eto.length tc,eimm⟩ k blocks.length w2 (hC.keep hs)
     simp only[ev]at hT;generalize endE ⟨eop,ea,eb,eto,.slice ta eto.length tc,eimm⟩ k blocks.length=EE at *;have HM:=hid hT;clear Hy He hx hw hC hT;obtain⟨wa,HO⟩:∃ x,x=wr:=⟨_,rfl⟩
     subst HO;go_wp2
     obtain⟨wb,hZ⟩:∃ x,x=wa.alloc (.cells #[.slice ia xins.length ic,.int .i64 eop,.int .i64 ea,.int .i64 eb,.slice ta eto.length tc,.int .i32 eimm] 34):=⟨_,rfl⟩
     rw[←hZ];have Hp:Since wa wb:=by rw[hZ];exact (Since.refl _).alloc _
     have Hw:HeapIs wb wa.heap.size #[.slice ia xins.length ic,.int .i64 eop,.int .i64 ea,.int .i64 eb,.slice ta eto.length tc,.int .i32 eimm] 34:=by rw[hZ];exact HeapIs.new _ _ _
     have h6:=hid Hp;have H4:=hid Hw;clear Hp Hw hZ c0 c1 c2 c3 c4 c5 lB kp lp
     go_loopw [7] (fun i wr=>∃ t:Nat,t≤xins.length∧i=.int .i64 t∧(∀ (u:Nat) (y:PlV),u<t→xins[u]? = some y→Y9 y.m k slots=0)∧Since wb wr) (fun i _=>xins.length-(intOf i).toNat)
     case atStart=>exact⟨0,Nat.zero_le _,rfl,fun u y hu=>by omega,.refl _⟩
     case round =>
      obtain⟨t,ht,rfl,hI,hE⟩:=hrel;have hL:=hid hI;have Hj:=hid hE;have h8:Since w wr:=HS.out.trans (h6.out.trans hE);have hH:=hid h8;have ho:=H4.out.keep hE;have hW:=hid ho;have hD:=hid (HW.out.keep (h6.out.trans hE));have Hk:=hid (Hl.out.keep (h6.out.trans hE));have kb:wr.cell? ⟨wa.heap.size,0,none⟩=some (.slice ia xins.length ic):=ho.cell 0;have lb:=ho.lt;clear hE h8 hI;by_cases hR:t<xins.length
      ·obtain⟨B2,off2,y,rfl,HB,hy,Hv,HG⟩:=RowIn.at HI.out hR;obtain⟨ym,yav,ysrc⟩:=y;obtain⟨h7,Ho,_⟩:Zd w yav ym.args∧Xt ym∧_:=HG;obtain⟨ya,yc,rfl⟩:=Zc h7;have H3:=hid Hv;have Hn:=hid HB;have hS:=fun wX (hX:Since w wX)=>ZdD ym (.slice ya ym.args.length yc) k slots wX (h7.keep hX) Ho
       unfold mv at hS;have Hq:Y9 ym k slots≠0→Y3 k slots xins 0=some (Y9 ym k slots,0+t):=fun HT=>VY 0 hy hL.out HT
       have H2:=hid Hq;have HY:=hid hy;generalize Hz:Y9 ym k slots=IE at *;have HK:=hid Hz;have HJ:=hid hS;clear Hz Hv HB hy h7 Ho hS Hq ho;go_wp2_with fail
       try rw[show decide ((t:Int)<(xins.length:Int))=true from decide_eq_true zaK]
       refine Zu rfl zaC zaC
        [Is (.pointer (some ⟨wa.heap.size,0,none⟩)),Is (.slice (some ⟨B2,off2,none⟩) xins.length ic),Is (.int .i64 t),Is (.pointer (some ⟨B2,off2+t*9,none⟩)),Is (.pointer (some ⟨B2,off2+t*9,none⟩)),Is (.agg #[.int .i64 ym.op,.int .i64 ym.d,.int .i64 ym.e,.int .i64 ym.a,.int .i64 ym.b,.int .i64 ym.c,.int .i32 ym.imm,.slice ya ym.args.length yc]),Is (.pointer (some ⟨w.heap.size,1,none⟩)),Is (.int .i64 k),Is (.pointer (some ⟨w.heap.size,2,none⟩)),Is (.int .i64 slots),Is (.int .i64 IE),Is (.int .i64 IE)]
        kT ⟨?_,?_,?_,?_,?_,?_,?_,?_,?_,?_,?_,?_,trivial⟩ ?_
       all_goals
        intro vs w3 hs hk;revert hk;refine zs2 ?_;intro hk
       ·exact kH
       ·have hc:w3.cell? ⟨wa.heap.size,0,none⟩=some (.slice (some ⟨B2,off2,none⟩) xins.length ic):=(hW.out.keep hs).cell 0;have hl:=(hW.out.keep hs).lt;exact kH
       iterate 3
        ·exact kH
       ·have hi:=fun t' HP=>((hH.out.trans hs).cell (p:=⟨B2,off2+t*9+t',none⟩) Hn.out).trans (H3.out t' HP)
        have c0:w3.cell? ⟨B2,off2+t*9,none⟩=some (.int .i64 ym.op):=hi 0 zaJ;have c1:w3.cell? ⟨B2,off2+t*9+1,none⟩=some (.int .i64 ym.d):=hi 1 zaJ;have c2:w3.cell? ⟨B2,off2+t*9+2,none⟩=some (.int .i64 ym.e):=hi 2 zaJ;have c3:w3.cell? ⟨B2,off2+t*9+3,none⟩=some (.int .i64 ym.a):=hi 3 zaJ;have c4:w3.cell? ⟨B2,off2+t*9+4,none⟩=some (.int .i64 ym.b):=hi 4 zaJ;have c5:w3.cell? ⟨B2,off2+t*9+5,none⟩=some (.int .i64 ym.c):=hi 5 zaJ;have c6:w3.cell? ⟨B2,off2+t*9+6,none⟩=some (.int .i32 ym.imm):=hi 6 zaJ;have c7:w3.cell? ⟨B2,off2+t*9+7,none⟩=some (.slice ya ym.args.length yc):=hi 7 zaJ;have hl:=Nat.lt_of_lt_of_le Hn.out (hH.out.trans hs).size;clear hi;exact kH
       ·exact kH
       ·have hc:w3.cell? ⟨w.heap.size,1,none⟩=some (.int .i64 k):=(hD.out.keep hs).cell 1;have hl:=(hD.out.keep hs).lt;exact kH
       ·exact kH
       ·have hc:w3.cell? ⟨w.heap.size,2,none⟩=some (.int .i64 slots):=(hD.out.keep hs).cell 2;have hl:=(hD.out.keep hs).lt;exact kH
       ·clear hk hR;go_wp2_with fail
        refine (HJ.out _ (hH.out.trans hs)).mono ?_;rintro e3 w4 ⟨rfl,HQ⟩;go_wp2
        exact⟨_,rfl,rfl,HQ⟩
       ·exact kH
       ·have HR:=hs;have Hh:=hid (hH.out.trans hs);have Hi:=hid (Hj.out.trans hs);have hJ:=hid (Hk.out.keep hs);clear hs HR kb lb;by_cases hz:IE=0
        ·have hb:(IE != 0)=false:=by simp[hz]
         have HZ:=hid hz;clear hz;clear hk;go_wp2
         go_roundw
         case rel=>exact⟨t+1,zaK,by go_num,fun u y hu hy=>by
          by_cases e:u=t
          ·subst e;rw[HY.out]at hy;cases hy;exact HK.out.trans HZ.out
          ·exact hL.out u y zaK hy,Hi.out⟩
         case measure=>simp[intOf];omega
        ·have hb:(IE != 0)=true:=by simpa using hz
         have hh:=Hm.out (IE,t) (by rw[HE.out,H2.out hz,Nat.zero_add]);obtain⟨rfl,rfl,rfl⟩:=hh;clear hz hk;go_wp2_with (
          refine wpList_store_row rfl 58 _ _ rfl (w.heap.size+1) #[.int .i64 fe,.int .i64 fb,.int .i64 fp] rfl rfl 58 #[.int .i64 0,.int .i64 0,.int .i64 0] (hJ.out) zaF rfl zaj ?_;obtain⟨w9,hd⟩:∃ x,x=(w3).setRow (w.heap.size+1) #[.int .i64 fe,.int .i64 fb,.int .i64 fp]:=⟨_,rfl⟩
          rw[←hd];have ha:HeapIs w9 (w.heap.size+1) #[.int .i64 fe,.int .i64 fb,.int .i64 fp] 58:=by rw[hd];exact ZO (hJ.out) _
          have he:Since w w9:=by rw[hd];exact (ZI (S:=fun q=>q=w.heap.size+1) rfl _).toSince (Hh.out) (fun q hq e=>by omega)
          clear hd;have ce0:w9.cell? ⟨w.heap.size+1,0,none⟩=some (.int .i64 fe):=ha.cell 0;have ce1:w9.cell? ⟨w.heap.size+1,1,none⟩=some (.int .i64 fb):=ha.cell 1;have ce2:w9.cell? ⟨w.heap.size+1,2,none⟩=some (.int .i64 fp):=ha.cell 2;have hA:=ha.lt;have hf:=hid he;clear ha he)
         exact bodyPost_ret (v:=.agg #[.int .i64 fe,.int .i64 fb,.int .i64 fp]) kU rfl ⟨rfl,hf.out⟩
      ·obtain rfl:t=xins.length:=zaK
       have hG:Y3 k slots xins 0=none:=Wo 0 fun y hy=>by
        obtain⟨u,hu⟩:=List.getElem?_of_mem hy;exact hL.out u y (List.getElem?_eq_some_iff.1 hu).1 hu
       have h5:=HE.out;rw[hG]at h5;dsimp only at h5;have HD:=hid h5;have k1:wr.cell? ⟨wa.heap.size,1,none⟩=some (.int .i64 eop):=ho.cell 1;have k2:wr.cell? ⟨wa.heap.size,2,none⟩=some (.int .i64 ea):=ho.cell 2;have k3:wr.cell? ⟨wa.heap.size,3,none⟩=some (.int .i64 eb):=ho.cell 3;have k4:wr.cell? ⟨wa.heap.size,4,none⟩=some (.slice ta eto.length tc):=ho.cell 4;have k5:wr.cell? ⟨wa.heap.size,5,none⟩=some (.int .i32 eimm):=ho.cell 5;have kp1:wr.cell? ⟨w.heap.size,1,none⟩=some (.int .i64 k):=hD.out.cell 1;have kp3:wr.cell? ⟨w.heap.size,3,none⟩=some (.slice (some ⟨B,off,none⟩) blocks.length bc):=hD.out.cell 3;have lp:=hD.out.lt;clear h5 hG ho hR;go_wp2_with fail
       refine (HM.out _ hH.out).mono ?_;rintro e3 w3 ⟨rfl,hO⟩;have Hh:=hid (hH.out.trans hO);have Hi:=hid (h6.out.trans (Hj.out.trans hO));have hJ:=hid (Hk.out.keep hO);have hU:=hW.out.keep hO;have kb3:w3.cell? ⟨wa.heap.size,0,none⟩=some (.slice ia xins.length ic):=hU.cell 0;have lb3:=hU.lt;clear hO hU k1 k2 k3 k4 k5 kp1 kp3 lp kb lb;by_cases hz:EE=0
       ·have hb:(EE != 0)=false:=by simp[hz]
        have HZ:=hid hz;clear hz;go_wp2
        go_roundw
        case rel=>exact⟨j+1,zaK,by go_num,fun u y hu hy=>by
         by_cases e:u=j
         ·subst e;rw[HX.out]at hy;cases hy;rw[HD.out,if_pos HZ.out]
         ·exact hY.out u y zaK hy,HV.out.trans Hi.out⟩
        case measure=>simp[intOf];omega
       ·have hb:(EE != 0)=true:=by simpa using hz
        have hh:=Hm.out (EE,xins.length) (by rw[HD.out,if_neg hz]);obtain⟨rfl,rfl,rfl⟩:=hh;clear hz;go_wp2_with (
         refine wpList_store_row rfl 58 _ _ rfl (w.heap.size+1) #[.int .i64 fe,.int .i64 fb,.int .i64 xins.length] rfl rfl 58 #[.int .i64 0,.int .i64 0,.int .i64 0] (hJ.out) zaF rfl zaj ?_;obtain⟨w9,hd⟩:∃ x,x=(w3).setRow (w.heap.size+1) #[.int .i64 fe,.int .i64 fb,.int .i64 xins.length]:=⟨_,rfl⟩
         rw[←hd];have ha:HeapIs w9 (w.heap.size+1) #[.int .i64 fe,.int .i64 fb,.int .i64 xins.length] 58:=by rw[hd];exact ZO (hJ.out) _
         have he:Since w w9:=by rw[hd];exact (ZI (S:=fun q=>q=w.heap.size+1) rfl _).toSince (Hh.out) (fun q hq e=>by omega)
         clear hd;have ce0:w9.cell? ⟨w.heap.size+1,0,none⟩=some (.int .i64 fe):=ha.cell 0;have ce1:w9.cell? ⟨w.heap.size+1,1,none⟩=some (.int .i64 fb):=ha.cell 1;have ce2:w9.cell? ⟨w.heap.size+1,2,none⟩=some (.int .i64 xins.length):=ha.cell 2;have hA:=ha.lt;have hf:=hid he;clear ha he)
        exact bodyPost_ret (v:=.agg #[.int .i64 fe,.int .i64 fb,.int .i64 xins.length]) kU rfl ⟨rfl,hf.out⟩
    ·obtain rfl:j=blocks.length:=zaK
     have hG:X1 k slots blocks.length blocks 0=none:=Wp 0 fun y hy=>by
      obtain⟨u,hu⟩:=List.getElem?_of_mem hy;exact hY.out u y (List.getElem?_eq_some_iff.1 hu).1 hu
     have hh:=HC.out;rw[hG]at hh;simp only[Option.getD_none,Prod.mk.injEq]at hh;obtain⟨rfl,rfl,rfl⟩:=hh;clear hG hQ hj;go_wp2_with (
      refine wpList_store_row rfl 58 _ _ rfl (w.heap.size+1) #[.int .i64 0,.int .i64 0,.int .i64 0] rfl rfl 58 #[.int .i64 0,.int .i64 0,.int .i64 0] (Hl.out) zaF rfl zaj ?_;obtain⟨w9,hd⟩:∃ x,x=(wr).setRow (w.heap.size+1) #[.int .i64 0,.int .i64 0,.int .i64 0]:=⟨_,rfl⟩
      rw[←hd];have ha:HeapIs w9 (w.heap.size+1) #[.int .i64 0,.int .i64 0,.int .i64 0] 58:=by rw[hd];exact ZO (Hl.out) _
      have he:Since w w9:=by rw[hd];exact (ZI (S:=fun q=>q=w.heap.size+1) rfl _).toSince (HS.out) (fun q hq e=>by omega)
      clear hd;have ce0:w9.cell? ⟨w.heap.size+1,0,none⟩=some (.int .i64 0):=ha.cell 0;have ce1:w9.cell? ⟨w.heap.size+1,1,none⟩=some (.int .i64 0):=ha.cell 1;have ce2:w9.cell? ⟨w.heap.size+1,2,none⟩=some (.int .i64 0):=ha.cell 2;have hA:=ha.lt;have hf:=hid he;clear ha he)
     exact bodyPost_ret (v:=.agg #[.int .i64 0,.int .i64 0,.int .i64 0]) kU rfl ⟨rfl,hf.out⟩
theorem ZbN (p:Z2) (w:World) (h:Xz w p):Calls prog 44 #[pv p] w (ZD (rightB p) w):=by
 obtain⟨ba,bc,hb,_⟩:=h.1.shape;have ha:=fun w2 (hs:Since w w2)=>ZcI p w2 (h.keep hs)
 unfold rightB;unfold GotP at ha;have hd:∀ (z y x:Int) (wX:World),(Instr.field 58 (.agg #[.int .i64 z,.int .i64 y,.int .i64 x]) 0).run prog wX=.ok (.int .i64 z) wX:=fun _ _ _ _=>by kernel_rfl
 generalize (funcE p).1=fe at *;generalize ((funcE p).2.1:Nat)=fb at *;generalize ((funcE p).2.2:Nat)=fp at *;have HF:=hid ha;clear ha h;unfold pv at HF;unfold pv;rw[hb]at HF ⊢;clear hb;go_enter func44,ntmps44
 exact qR
end Go.Proofs.YtimpddecdodddaaGreat
