import Derived.Test.YtimpddecdodddaaGreatSb39
import Derived.Deep.CutRange
namespace Go.Proofs.YtimpddecdodddaaGreat
open Go.RowKit Go.Lib
set_option linter.unusedVariables false
set_option maxHeartbeats 4000000
set_option maxRecDepth 100000
theorem Vh {T : Nat→Prop} {w w':World} {k : IntKind} {v : Value} {l : List Int} (h:Zt k w v l) (t:Turn T w w') (hn:l≠[]→∀ q,v.ownBlock=some q→¬ T q):Zt k w' v l:=by
 by_cases e:l=[]
 ·subst e;rcases h with h|⟨b,off,cap,h1,h2,h3,h4,h5⟩
  ·exact .inl h
  ·exact .inr ⟨b,off,cap,h1,h2,h3,Nat.lt_of_lt_of_le h4 t.size,fun j n hj=>by cases hj⟩
 ·exact h.turn t (hn e)
theorem QX {w : World} {k : IntKind} {v : Value} {l : List Int} {ob:Nat} {T : TypeId} (h:Zt k w v l) (ha:HeapIs w ob #[] T) (hl:l≠[]):∀ q,v.ownBlock=some q→q≠ob∧q<w.heap.size:=by
 intro q hq;rcases h with ⟨_,_,h2⟩|⟨b,off,cap,h1,_,_,h4,h5⟩
 ·exact absurd h2 hl
 ·subst h1;have e:b=q:=Option.some.inj hq;subst e;refine⟨fun e=>?_,h4⟩;subst e;obtain⟨n,hn⟩:∃ n,l[0]? = some n:=⟨_,List.getElem?_eq_getElem (by cases l with|nil=>exact absurd rfl hl|cons x r=>exact Nat.succ_pos _)⟩
  have h6:=h5 0 n hn;rw[ha.cell]at h6;simp at h6
structure NvA (w0 w3:World) (S:Int) (xb ob:Nat) (xc:Array Value) (tv dv:Value) (tl dl:List Int) (v:Value) (pls:List PlV) (wr:World):Prop where
 row:OwnRow plcells 9 38 w0.heap.size wr v pls
 each:∀ y∈pls,PlNew w0.heap.size S wr y
 box:HeapIs wr xb xc 36
 tk:Zt .i64 wr tv tl
 dk:Zt .i64 wr dv dl
 old:Since w0 wr
 at_:∀ q,v.ownBlock=some q→q=ob∨w3.heap.size≤q
 far:(tl≠[]→∀ q,tv.ownBlock=some q→q≠ob∧q<w3.heap.size)∧(dl≠[]→∀ q,dv.ownBlock=some q→q≠ob∧q<w3.heap.size)
 size:w3.heap.size≤wr.heap.size
section
variable {w0 w3 wr w2 w6:World} {S : Int} {xb ob:Nat} {xc:Array Value} {tv dv v v':Value} {tl dl:List Int} {pls ys:List PlV}
theorem NvA.keep (h:NvA w0 w3 S xb ob xc tv dv tl dl v pls wr) (s:Since wr w2):NvA w0 w3 S xb ob xc tv dv tl dl v pls w2:=
 ⟨h.row.keep s,fun y hy=>(h.each y hy).keep s,h.box.keep s,h.tk.keep s,h.dk.keep s,h.old.trans s,h.at_,h.far,Nat.le_trans h.size s.size⟩
theorem NvA.add (h:NvA w0 w3 S xb ob xc tv dv tl dl v pls wr) (ha:OwnRow plcells 9 38 w0.heap.size w6 v' (pls++ys)) (t:Turn (fun q=>v.ownBlock=some q) wr w6) (hb:Z6 wr v v') (hy:∀ y∈ys,PlNew w0.heap.size S wr y):NvA w0 w3 S xb ob xc tv dv tl dl v' (pls++ys) w6:=by
 have hc:∀ q,v.ownBlock=some q→w0.heap.size≤q:=fun q hq=>(World.ownsRow.lt (show wr.ownsRow _ _ _ _ _ _ from h.row) q hq).1
 refine⟨ha,fun y hm=>?_,h.box.turn t (Zm h.row h.box kS),Vh h.tk t fun hl q hq e=>?_,Vh h.dk t fun hl q hq e=>?_,t.toSince h.old fun k hk e=>by have:=hc k e;omega,fun q hq=>?_,h.far,Nat.le_trans h.size t.size⟩
 ·rcases List.mem_append.1 hm with hm|hm
  ·exact (h.each y hm).turn h.row t
  ·exact (hy y hm).turn h.row t
 ·have h1:=h.far.1 hl q hq;rcases h.at_ q e with h2|h2
  ·exact h1.1 h2
  ·omega
 ·have h1:=h.far.2 hl q hq;rcases h.at_ q e with h2|h2
  ·exact h1.1 h2
  ·omega
 ·rcases hb q hq with h1|h1
  ·exact h.at_ q h1
  ·exact .inr (Nat.le_trans h.size h1)
end
def rangeI (k:Nat):List Int:=(List.range k).map fun (t:Nat)=>(t:Int)
theorem Zan (k:Nat):rangeI (k+1)=rangeI k++[(k:Int)]:=by unfold rangeI;rw[List.range_succ,List.map_append];rfl
theorem WL (k:Nat):(rangeI k).length=k:=by unfold rangeI;simp
def MidN (w8:World) (m:Mach) (yb:Nat) (e:Int) (wx:World):Prop:=∃ a c,HeapIs wx yb #[.int .i64 m.op,.int .i64 0,.int .i64 e,.int .i64 0,.int .i64 (nvM m).b,.int .i64 (nvM m).c,.int .i32 m.imm,.slice a (nvM m).args.length c] 36∧wx.ownsRow w8.heap.size 3 1 (.slice a (nvM m).args.length c) (nvM m).args.length ((nvM m).args.map (Value.int .i64))∧Since w8 wx
theorem ZbU (x:MaV) (frm:Int) (w:World) (S:Int) (hx:Zi w x.av x.m.args) (hg:MGood x.m) (hr:∀ r∈takes7 x.m++makes7 x.m,r<S) (hS:S≤16384) (hf:0≤frm∧frm≤5000) :
  Calls Tryz.prog 79 #[mav x,.int .i64 frm] w (fun e w'=>∃ v,e=.returned v∧GoodRow w.heap.size S 7 v w'∧Since w w'):=by
 obtain⟨m,av⟩:=x;dsimp only at hx hg hr;have H7:=hg.few;have HV:=hid (VJ hg);have H2:=hid (Ko (i:=m));have HU:=hid (fun r (h:r∈takes7 m)=>And.intro (Qa hg r h).1 (hr r (List.mem_append_left _ h)))
 have H1:=hid (fun r (h:r∈makes7 m)=>And.intro (Qq hg r h).1 (hr r (List.mem_append_right _ h)))
 have HG:=hid hg;have HX:=hid hx;clear hx hg hr;unfold mav;dsimp only;go_enter Tryz.func79,Tryz.ntmps79
 go_upto_region 2 with fail
 obtain⟨xc,Hm⟩:∃ z:Array Value,z=#[.int .i64 m.op,.int .i64 m.d,.int .i64 m.e,.int .i64 m.a,.int .i64 m.b,.int .i64 m.c,.int .i32 m.imm,av]:=⟨_,rfl⟩
 obtain⟨w1,hJ⟩:∃ z,z=(w.alloc (.cells xc 36)).alloc (.cells #[] 38):=⟨_,rfl⟩
 have HC:=zH (Since w w1) (by rw[hJ];exact ((Since.refl w).alloc _).alloc _)
 obtain⟨xb,Hn⟩:∃ z,z=w.heap.size:=⟨_,rfl⟩
 obtain⟨ob,Hr⟩:∃ z,z=w.heap.size+1:=⟨_,rfl⟩
 have He:=zH (HeapIs w1 xb xc 36) (by rw[hJ,Hn];exact (HeapIs.new _ _ _).keep ((Since.refl _).alloc _))
 have HL:=hid (show HeapIs w1 ob #[] 38 from by
  rw[hJ,Hr];have h9:=HeapIs.new (w.alloc (.cells xc 36)) #[] 38;rw[show (w.alloc (.cells xc 36)).heap.size=w.heap.size+1 from by simp]at h9;exact h9)
 rw[←Hm,←hJ,←Hr,←Hn];have HZ:=zH (w.heap.size≤ob) kT;have Hc:=hid Hm;clear hJ Hn Hr Hm;have hN:HeapIs w1 xb #[.int .i64 m.op,.int .i64 m.d,.int .i64 m.e,.int .i64 m.a,.int .i64 m.b,.int .i64 m.c,.int .i32 m.imm,av] 36:=by rw[←Hc.out];exact He.out
 go_wp2_with (refine wpList_load_row rfl _ _ rfl xb rfl 36 _ (0,0) _ hN Tryz.underlying36 rfl kO ?_)
 refine (JJ m av w1 (HX.out.keep HC.out) kT).mono ?_;rintro e w2 ⟨tv,rfl,hK,hM⟩;have Hf:=hid hK;have hQ:=hid hM;clear hK hM hN;have hN:HeapIs w2 xb #[.int .i64 m.op,.int .i64 m.d,.int .i64 m.e,.int .i64 m.a,.int .i64 m.b,.int .i64 m.c,.int .i32 m.imm,av] 36:=by rw[←Hc.out];exact He.out.keep hQ.out
 go_wp2_with (refine wpList_load_row rfl _ _ rfl xb rfl 36 _ (0,0) _ hN Tryz.underlying36 rfl kO ?_)
 refine (JK m av w2 (HX.out.keep (HC.out.trans hQ.out)) kT).mono ?_;rintro e w3 ⟨dv,rfl,Ha,hF⟩;have hW:=hid (HL.out.keep (hQ.out.trans hF));have HN:=hid (show NvA w w3 S xb ob xc tv dv (takes7 m) (makes7 m) (.slice (some ⟨ob,0,none⟩) 0 0) [] w3 from
  ⟨⟨by simp,.inr ⟨ob,0,#[],rfl,HZ.out,hW.out,by simp,by unfold maxLen;omega,by simp,by simp⟩⟩,fun y hy=>(by cases hy),He.out.keep (hQ.out.trans hF),Hf.out.keep hF,Ha,(HC.out.trans hQ.out).trans hF,fun q hq=>.inl (Option.some.inj hq).symm,⟨fun hl q hq=>QX (Hf.out.keep hF) hW.out hl q hq,fun hl q hq=>QX Ha hW.out hl q hq⟩,Nat.le_refl _⟩)
 obtain⟨ta,tc,hK⟩:=Zb Hf.out;obtain⟨da,dc,Hu⟩:=Zb Ha;obtain⟨tn,h5⟩:∃ z,(takes7 m).length=z:=⟨_,rfl⟩
 obtain⟨dn,Hb⟩:∃ z,(makes7 m).length=z:=⟨_,rfl⟩
 rw[h5]at hK;rw[Hb]at Hu;subst hK Hu;have Hz:=hid h5;have H0:=hid Hb;have H3:tn≤4:=by rw[←h5];exact HV.out
 have H6:dn≤2:=by rw[←Hb];exact H2.out
 clear Ha hF hN h5 Hb Hf HL He;go_wp2_with fail
 go_loopw [5,8] (fun ov kv wr=>∃ (k:Nat) (v:Value) (pls:List PlV),ov=v∧kv=.int .i64 k∧k≤tn∧pls.length=k∧NvA w w3 S xb ob xc (.slice ta tn tc) (.slice da dn dc) (takes7 m) (makes7 m) v pls wr) (fun _ kv _=>tn-(intOf kv).toNat)
 case atStart=>exact⟨0,_,[],rfl,rfl,Nat.zero_le _,rfl,HN.out⟩
 case round =>
  obtain⟨k,v,pls,rfl,rfl,hk,hu,hj⟩:=hrel;obtain⟨va,vc,hv⟩:=OwnRow.shape hj.row;rw[hu]at hv;subst hv;have ha:=hid hj;have hp:=hid hu;clear hj hu HN;by_cases Hs:k<tn
  ·obtain⟨r,hr⟩:∃ r,(takes7 m)[k]? = some r:=⟨_,List.getElem?_eq_getElem (by rw[Hz.out];exact Hs)⟩
   obtain⟨TB,toff,rfl,HT,Hv⟩:=XH ha.out.tk hr;have Hq:=HU.out r (List.mem_of_getElem? hr);clear hr;go_wp2_with fail
   refine (Wd k r wr kT kT).mono ?_;rintro e w4 ⟨rfl,hL⟩;have HB:=hid hL;clear hL Hv;have hb:=hid (ha.out.keep HB.out);have ho:=zH (PlNew w.heap.size S w4 (Yr 30 k r)) (PlNew.laid (.inl rfl) kT Hq hS);go_wp2_with (refine Z8 (base:=w.heap.size) plcells 9 ZE kS rfl _ _ 30 rfl 38 (.agg #[.int .i64 0,.int .i64 0,.int .i64 0,.int .i64 0,.int .i64 0,.int .i64 0,.int .i32 0,.slice none 0 0,.int .i64 0]) 88 Tryz.underlying30 kO rfl kS (.slice va k vc) (.slice (some ⟨w4.heap.size,0,none⟩) 1 1) pls [Yr 30 k r] rfl rfl (hb.out.keep ((Since.refl _).alloc _)).row (XG ZE kS (Zdj (HeapIs.new _ _ _))) (Wt (fun y hy=>by rw[List.mem_singleton.1 hy];exact ho.out)) (by have:=hp.out;simp;omega) (by have:=hb.out.old.size;simp;omega) ?_;intro v' w6 hc ht hd;have hn:=hid ((hb.out.keep ((Since.refl _).alloc _)).add hc ht hd (fun y hy=>by rw[List.mem_singleton.1 hy];exact ho.out.keep ((Since.refl _).alloc _)));clear hc ht hd)
   go_roundw
   case rel=>exact⟨k+1,_,pls++[Yr 30 k r],by trivial,by go_num,kT,by rw[List.length_append,hp.out];rfl,hn.out⟩
   case measure=>simp[intOf];omega
  ·obtain rfl:tn=k:=kT
   obtain⟨wA,HS⟩:∃ z,z=wr:=⟨_,rfl⟩
   subst HS;have H9:=hid ha.out.tk;have hI:HeapIs wA xb #[.int .i64 m.op,.int .i64 m.d,.int .i64 m.e,.int .i64 m.a,.int .i64 m.b,.int .i64 m.c,.int .i32 m.imm,av] 36:=by rw[←Hc.out];exact ha.out.box
   have Ho:=hI.cell 0;have HR:=hI.cell 6;have Hl:=hI.lt
   go_upto_if 39 with fail
   obtain⟨yb,hZ⟩:∃ z,z=wA.heap.size:=⟨_,rfl⟩
   obtain⟨w8,h4⟩:∃ z,z=wA.alloc (.cells #[.int .i64 m.op,.int .i64 0,.int .i64 0,.int .i64 0,.int .i64 0,.int .i64 0,.int .i32 m.imm,.slice none 0 0] 36):=⟨_,rfl⟩
   have hG:=zH (HeapIs w8 yb #[.int .i64 m.op,.int .i64 0,.int .i64 0,.int .i64 0,.int .i64 0,.int .i64 0,.int .i32 m.imm,.slice none 0 0] 36) (by rw[h4,hZ];exact HeapIs.new _ _ _);have Hg:=zH (Since wA w8) (by rw[h4];exact (Since.refl wA).alloc _)
   have Hx:=zH (wA.heap.size≤yb) (Nat.le_of_eq hZ.symm);rw[←h4,←hZ];clear h4 hZ hI Ho HR Hl
   go_cut [] from 37 to 63 (fun wx=>MidN wA m yb 0 wx)
   case first =>
    have td:=zH (w8.heap.size≥yb) (by have:=hG.out.lt;omega);have hy:=hG.out;have hY:=hy.lt;have Hj:=hy.frozen;have HF:=hy.cell 2;have HQ:=hy.cell 4;have HP:=hy.cell 5;have Hk:=hy.cell 7;clear hy;obtain⟨bq,he⟩:∃ z,(m.op==28)=z:=⟨_,rfl⟩
    rw[he]
    cases bq
    ·have hB:=zH (¬ m.op=28) kD;clear he;have hz:(nvM m).args=[]:=if_neg hB.out;have hP:(nvM m).b=if 1<(takes7 m).length then 1 else 0:=if_neg hB.out;have hO:(nvM m).c=if 2<(takes7 m).length then 2 else 0:=if_neg hB.out;rw[Hz.out]at hP hO;have hC:=hid (And.intro hz (And.intro hP hO));clear hz hP hO;have Ht:∀ (wx:World) (bb cc:Int),(nvM m).b=bb→(nvM m).c=cc→HeapIs wx yb #[.int .i64 m.op,.int .i64 0,.int .i64 0,.int .i64 0,.int .i64 bb,.int .i64 cc,.int .i32 m.imm,.slice none 0 0] 36→Since wA wx→MidN wA m yb 0 wx:=fun wx bb cc e1 e2 hh hs=>by
      unfold MidN;rw[hC.out.1,e1,e2];exact⟨none,0,hh,⟨rfl,.inl ⟨rfl,rfl⟩⟩,hs⟩
     have hX:=hid Ht;have hj:∀ (wx:World) (j:Nat) (v:Value),Since wA wx→Since wA (wx.setCell ⟨yb,j,none⟩ v):=fun wx j v hs=>((Turn.refl (fun q=>q=yb) wx).setCell (p:=⟨yb,j,none⟩) rfl _).toSince hs fun q hq e=>by have:=Hx.out;omega
     have hT:=hid hj;clear Ht hj;by_cases h1:1<tn
     ·by_cases h2:2<tn
      ·go_wp2_with fail
       go_meet
       exact hX.out _ 1 2 (by rw[hC.out.2.1,if_pos h1]) (by rw[hC.out.2.2,if_pos h2]) ((hG.out.set 4 _).set 5 _) (hT.out _ _ _ (hT.out _ _ _ Hg.out))
      ·go_wp2_with fail
       go_meet
       exact hX.out _ 1 0 (by rw[hC.out.2.1,if_pos h1]) (by rw[hC.out.2.2,if_neg h2]) (hG.out.set 4 _) (hT.out _ _ _ Hg.out)
     ·have h2:¬ 2<tn:=kT
      go_wp2_with fail
      go_meet
      exact hX.out _ 0 0 (by rw[hC.out.2.1,if_neg h1]) (by rw[hC.out.2.2,if_neg h2]) hG.out Hg.out
    ·have hB:=zH (m.op=28) kD;clear he;go_wp2_with fail
     go_loopw [10] (fun kv wx=>∃ (k:Nat) (a:Option Addr) (c:Nat),kv=.int .i64 k∧k≤tn∧HeapIs wx yb #[.int .i64 m.op,.int .i64 0,.int .i64 0,.int .i64 0,.int .i64 0,.int .i64 0,.int .i32 m.imm,.slice a k c] 36∧wx.ownsRow wA.heap.size 3 1 (.slice a k c) k ((rangeI k).map (Value.int .i64))∧Since wA wx) (fun kv _=>tn-(intOf kv).toNat)
     case atStart=>exact⟨0,none,0,rfl,Nat.zero_le _,hG.out,⟨rfl,.inl ⟨rfl,rfl⟩⟩,Hg.out⟩
     case round =>
      clear hY Hj HF HQ HP Hk;obtain⟨k2,a2,c2,rfl,H8,hH,h8,hM⟩:=hrel;have Hy:=hid hH;have Hi:=hid h8;have hU:=hid hM;have Hk:=hH.cell 7;have hY:=hH.lt;clear hH h8 hM;by_cases H5:k2<tn
      ·have K1:=zH ((wr.alloc (.cells #[.int .i64 (k2:Int)] 3)).ownsRow wA.heap.size 3 1 (.slice a2 k2 c2) (rangeI k2).length ((rangeI k2).map (Value.int .i64))) (Zs (by rw[WL];exact Hi.out) ((Since.refl _).alloc _));have K2:=zH ((rangeI k2).length + [(k2:Int)].length≤1000000) (by rw[WL];simp;omega);have K3:=zH (wA.heap.size≤(wr.alloc (.cells #[.int .i64 (k2:Int)] 3)).heap.size) (by have:=hU.out.size;simp;omega);have K4:=zH (HeapIs (wr.alloc (.cells #[.int .i64 (k2:Int)] 3)) yb #[.int .i64 m.op,.int .i64 0,.int .i64 0,.int .i64 0,.int .i64 0,.int .i64 0,.int .i32 m.imm,.slice a2 k2 c2] 36) (Hy.out.keep ((Since.refl _).alloc _));have K5:=zH (¬ (Value.slice a2 k2 c2).ownBlock=some yb) (Zm Hi.out Hy.out kS);go_wp2_with (refine Zo (base:=wA.heap.size) .i64 rfl _ _ 22 rfl 3 (.int .i64 0) 8 Tryz.underlying22 Tryz.info3 rfl kS (.slice a2 k2 c2) _ (rangeI k2) [(k2:Int)] rfl rfl K1.out (Yq _ _ _) K2.out K3.out ?_;intro v6 w6 hw Hp HD;obtain⟨a6,c6,HH⟩:=Zf hw;rw[←Zan,WL]at hw HH;subst HH;have hA:=K4.out.turn Hp K5.out;have HJ:=hid hA;have Hk:=hA.cell 7;have hY:=hA.lt;have Hj:=hA.frozen;have HM:=hid hw;have HW:=zH (Since wA w6) (Hp.toSince (hU.out.trans ((Since.refl _).alloc _)) fun q hq e=>by have:=(World.ownsRow.lt Hi.out q e).1;omega);clear hA hw Hp HD)
       go_roundw
       case rel=>exact⟨k2+1,a6,c6,by go_num,kT,HJ.out.set 7 _,Zj HM.out ((Turn.refl (fun q=>q=yb) w6).setCell (p:=⟨yb,7,none⟩) rfl _) (fun q hq e=>Zm HM.out HJ.out kS (e ▸ hq)),((Turn.refl (fun q=>q=yb) w6).setCell (p:=⟨yb,7,none⟩) rfl _).toSince HW.out fun q hq e=>by have:=Hx.out;omega⟩
       case measure=>simp[intOf];omega
      ·obtain rfl:tn=k2:=kT
       go_wp2_with fail
       go_meet
       have hz:(nvM m).args=rangeI (takes7 m).length:=if_pos hB.out;have hP:(nvM m).b=0:=if_pos hB.out;have hO:(nvM m).c=0:=if_pos hB.out;unfold MidN;rw[hz,WL,hP,hO,Hz.out];exact⟨a2,c2,Hy.out,Hi.out,hU.out⟩
   case rest =>
    obtain⟨a9,c9,hD,hi,hE⟩:=hcut;have hm:=hid hD;have Hh:=hid hi;have HA:=hid hE;have hR:HeapIs wc xb #[.int .i64 m.op,.int .i64 m.d,.int .i64 m.e,.int .i64 m.a,.int .i64 m.b,.int .i64 m.c,.int .i32 m.imm,av] 36:=by rw[←Hc.out];exact ha.out.box.keep hE
    have Ho:=hR.cell 0;have Hl:=hR.lt;clear hD hi hE hR
    go_upto_if 62 with fail
    clear Ho Hl
    go_cut [] from 60 to 63 (fun wx=>MidN wA m yb (nvM m).e wx)
    case first =>
     have hY:=hm.out.lt;have Hj:=hm.out.frozen;have HF:=hm.out.cell 2;obtain⟨bq,he⟩:∃ z,(m.op==29)=z:=⟨_,rfl⟩
     rw[he]
     cases bq
     ·have HE:=zH ((nvM m).e=0) (if_neg kD);clear he;go_wp2_with fail
      go_meet
      unfold MidN;rw[HE.out];exact⟨a9,c9,hm.out,Hh.out,HA.out⟩
     ·have HE:=zH ((nvM m).e=1) (if_pos kD);clear he;go_wp2_with fail
      go_meet
      unfold MidN;rw[HE.out];have t9:Turn (fun q=>q=yb) wc (wc.setCell ⟨yb,2,none⟩ (.int .i64 1)):=(Turn.refl (fun q=>q=yb) wc).setCell (p:=⟨yb,2,none⟩) rfl _;exact⟨a9,c9,hm.out.set 2 _,Zj Hh.out t9 (fun q hq e=>Zm Hh.out hm.out kS (e ▸ hq)),t9.toSince HA.out fun q hq e=>by have:=Hx.out;omega⟩
    case rest =>
     clear hm Hh HA;obtain⟨a9,c9,hD,hi,hE⟩:=hcut;obtain⟨an,Hw⟩:∃ z,(nvM m).args.length=z:=⟨_,rfl⟩
     rw[Hw]at hD hi;have hm:=hid hD;have hb:=hid (ha.out.keep hE);have ho:=hid (show PlNew w.heap.size S wc ⟨nvM m,.slice a9 an c9,frm⟩ from⟨by
      rw[Hw];obtain⟨h0,h1|⟨g,c,u,h1,h2,h3⟩⟩:=hi
      ·exact⟨h0,.inl h1⟩
      ·exact⟨h0,.inr ⟨g,c,u,h1,Nat.le_trans ha.out.old.size h2,h3⟩⟩,ZdC HG.out S,by show -1≤frm∧frm≤5000;omega⟩)
     have HK:=hid (fun (wx:World)=>show RowIn plcells 9 (fun _ _=>True) (wx.alloc (.cells #[.int .i64 m.op,.int .i64 0,.int .i64 (nvM m).e,.int .i64 0,.int .i64 (nvM m).b,.int .i64 (nvM m).c,.int .i32 m.imm,.slice a9 an c9,.int .i64 frm] 38)) (.slice (some ⟨wx.heap.size,0,none⟩) 1 1) [⟨nvM m,.slice a9 an c9,frm⟩] from Wo [⟨nvM m,.slice a9 an c9,frm⟩] _ (ZcZ plcells _) (HeapIs.new _ _ _) 1 rfl (by show 1≤1000;omega))
     clear hD hi hE Hw;go_wp2_with (first | refine wpList_load_row rfl _ _ rfl yb rfl 36 _ (0,0) _ hm.out Tryz.underlying36 rfl kO ?_ | (refine Z8 (base:=w.heap.size) plcells 9 ZE kS rfl _ _ 30 rfl 38 (.agg #[.int .i64 0,.int .i64 0,.int .i64 0,.int .i64 0,.int .i64 0,.int .i64 0,.int .i32 0,.slice none 0 0,.int .i64 0]) 88 Tryz.underlying30 kO rfl kS (.slice va tn vc) (.slice (some ⟨wc.heap.size,0,none⟩) 1 1) pls [⟨nvM m,.slice a9 an c9,frm⟩] rfl rfl (hb.out.keep ((Since.refl _).alloc _)).row (XG ZE kS (HK.out wc)) (Wt (fun y hy=>by rw[List.mem_singleton.1 hy];exact ho.out)) (by have:=hp.out;simp;omega) (by have:=hb.out.old.size;simp;omega) ?_;intro v' w6 hc ht hd;have hn:=hid ((hb.out.keep ((Since.refl _).alloc _)).add hc ht hd (fun y hy=>by rw[List.mem_singleton.1 hy];exact ho.out.keep ((Since.refl _).alloc _)));clear hc ht hd))
     obtain⟨pn,HI⟩:∃ z,tn+1=z:=⟨_,rfl⟩
     have hV:=zH ((pls++[(⟨nvM m,.slice a9 an c9,frm⟩:PlV)]).length=pn) (by rw[List.length_append,hp.out,←HI];rfl);obtain⟨pls2,h7⟩:∃ z,z=pls++[(⟨nvM m,.slice a9 an c9,frm⟩:PlV)]:=⟨_,rfl⟩
     rw[←h7]at hV hn;have H4:pn≤5:=kT
     clear h7 HI hp hb ho HK hm
     go_loopw [5,11] (fun ov kv wr=>∃ (k:Nat) (v:Value) (pls:List PlV),ov=v∧kv=.int .i64 k∧k≤dn∧pls.length=pn+k∧NvA w w3 S xb ob xc (.slice ta tn tc) (.slice da dn dc) (takes7 m) (makes7 m) v pls wr) (fun _ kv _=>dn-(intOf kv).toNat)
     case atStart=>exact⟨0,_,pls2,rfl,rfl,Nat.zero_le _,hV.out,hn.out⟩
     case round =>
      clear hn hV;obtain⟨k,v,pls,rfl,rfl,hk,hu,hj⟩:=hrel;obtain⟨va,vc,hv⟩:=OwnRow.shape hj.row;obtain⟨ql,h6⟩:∃ z,pn+k=z:=⟨_,rfl⟩
      rw[hu,h6]at hv;rw[h6]at hu;subst hv;have ha:=hid hj;have hp:=hid hu;have HY:=hid h6;have HO:ql≤7:=kT
      clear hj hu h6;by_cases Hs:k<dn
      ·obtain⟨r,hr⟩:∃ r,(makes7 m)[k]? = some r:=⟨_,List.getElem?_eq_getElem (by rw[H0.out];exact Hs)⟩
       obtain⟨TB,toff,rfl,HT,Hv⟩:=XH ha.out.dk hr;have Hq:=H1.out r (List.mem_of_getElem? hr);clear hr;go_wp2_with fail
       refine (Wc k r wr kT kT).mono ?_;rintro e w4 ⟨rfl,hL⟩;have HB:=hid hL;clear hL Hv;have hb:=hid (ha.out.keep HB.out);have ho:=zH (PlNew w.heap.size S w4 (Yr 31 k r)) (PlNew.laid (.inr rfl) kT Hq hS);go_wp2_with (refine Z8 (base:=w.heap.size) plcells 9 ZE kS rfl _ _ 30 rfl 38 (.agg #[.int .i64 0,.int .i64 0,.int .i64 0,.int .i64 0,.int .i64 0,.int .i64 0,.int .i32 0,.slice none 0 0,.int .i64 0]) 88 Tryz.underlying30 kO rfl kS (.slice va ql vc) (.slice (some ⟨w4.heap.size,0,none⟩) 1 1) pls [Yr 31 k r] rfl rfl (hb.out.keep ((Since.refl _).alloc _)).row (XG ZE kS (Zdi (HeapIs.new _ _ _))) (Wt (fun y hy=>by rw[List.mem_singleton.1 hy];exact ho.out)) (by have:=hp.out;simp;omega) (by have:=hb.out.old.size;simp;omega) ?_;intro v' w6 hc ht hd;have hn:=hid ((hb.out.keep ((Since.refl _).alloc _)).add hc ht hd (fun y hy=>by rw[List.mem_singleton.1 hy];exact ho.out.keep ((Since.refl _).alloc _)));clear hc ht hd)
       go_roundw
       case rel=>exact⟨k+1,_,pls++[Yr 31 k r],by trivial,by go_num,kT,by rw[List.length_append,hp.out,←HY.out];rfl,hn.out⟩
       case measure=>simp[intOf];omega
      ·obtain rfl:dn=k:=kT
       go_wp2_with fail
       go_ret
       exact⟨_,rfl,⟨pls,by rw[hp.out];exact HO,Yl ZE ha.out.row fun _ _=>trivial,ha.out.each⟩,ha.out.old⟩
end Go.Proofs.YtimpddecdodddaaGreat
