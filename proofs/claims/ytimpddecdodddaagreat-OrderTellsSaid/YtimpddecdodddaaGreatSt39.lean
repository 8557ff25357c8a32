import Derived.Test.YtimpddecdodddaaGreatSt37
import Derived.Deep.CutRange
namespace Go.Proofs.YtimpddecdodddaaGreat
open Go.Proofs.Tryz Go.RowKit Go.Lib
set_option linter.unusedVariables false
set_option maxHeartbeats 8000000
set_option maxRecDepth 100000
theorem zp {P:Prop} (h:P:=by
 obtain⟨ha,tr⟩:=H0.out w5 hs;clear hk;have g0:=ha 0 (by decide);have g1:=ha 1 (by decide);have g2:=ha 2 (by decide);have g3:=ha 3 (by decide);have g4:=ha 4 (by decide);have g5:=ha 5 (by decide);have g6:=ha 6 (by decide);have g7:=ha 7 (by decide)
 replace g0:w5.cell? ⟨IB,ioff+i*8,none⟩=some (.int .i64 xm.op):=g0
 replace g1:w5.cell? ⟨IB,ioff+i*8+1,none⟩=some (.int .i64 xm.d):=g1
 replace g2:w5.cell? ⟨IB,ioff+i*8+2,none⟩=some (.int .i64 xm.e):=g2
 replace g3:w5.cell? ⟨IB,ioff+i*8+3,none⟩=some (.int .i64 xm.a):=g3
 replace g4:w5.cell? ⟨IB,ioff+i*8+4,none⟩=some (.int .i64 xm.b):=g4
 replace g5:w5.cell? ⟨IB,ioff+i*8+5,none⟩=some (.int .i64 xm.c):=g5
 replace g6:w5.cell? ⟨IB,ioff+i*8+6,none⟩=some (.int .i32 xm.imm):=g6
 replace g7:w5.cell? ⟨IB,ioff+i*8+7,none⟩=some xav:=g7
 clear ha;unfold mv;go_wp2
 exact⟨_,rfl,rfl,.refl _⟩):P:=h
theorem zz {P:Prop} (h:P:=by
 have HR:=hid hr;clear hr;go_wp2_with fail
 obtain⟨t3,hh⟩:∃ z,z=(if t<r+1 then r+1 else t):=⟨_,rfl⟩
 rw[←hh];have Hp:t≤t3∧r+1≤t3∧t3≤10000:=by rw[hh];split<;>omega
 clear hh
 go_roundw
 case rel=>exact⟨t3,k+1,by trivial,by go_num,by omega,⟨by omega,by omega⟩,(fun j r2 hj h2=>by
  by_cases e:j=k
  ·subst e;rw[HR.out]at h2;cases h2;omega
  ·have:=hD.out j r2 (by omega) h2;omega),by trivial⟩
 case measure=>simp[intOf];omega):P:=h
theorem yk {P:Prop} (h:P:=by
 have hm:HeapIs w5 nb #[_,_,_,_,_,_,_] 135:=Hx.out.keep hs;have hc:=hm.cell 1;have hl:=hm.lt;clear hm;go_wp2
 exact⟨_,rfl,rfl,.refl _⟩):P:=h
theorem Vn {T : Nat→Prop} {w w':World} {k : IntKind} {v : Value} {l : List Int} (h:Zy k w v l) (t:Zb T w w') (hn:l≠[]→∀ q,v.ownBlock=some q→¬ T q):Zy k w' v l:=by
 by_cases e:l=[]
 ·subst e;rcases h with h|⟨b,off,cap,h1,h2,h3,h4,h5⟩
  ·exact .inl h
  ·exact .inr ⟨b,off,cap,h1,h2,h3,Nat.lt_of_lt_of_le h4 t.size,fun j n hj=>by cases hj⟩
 ·exact h.turn t (hn e)
theorem ZaC {w : World} {k : IntKind} {v : Value} {l : List Int} {ob:Nat} {T : TypeId} (h:Zy k w v l) (ha:HeapIs w ob #[] T) (hl:l≠[]):∀ q,v.ownBlock=some q→q≠ob∧q<w.heap.size:=by
 intro q hq;rcases h with ⟨_,_,h2⟩|⟨b,off,cap,h1,_,_,h4,h5⟩
 ·exact absurd h2 hl
 ·subst h1;have e:b=q:=Option.some.inj hq;subst e;refine⟨fun e=>?_,h4⟩;subst e;obtain⟨n,hn⟩:∃ n,l[0]? = some n:=⟨_,List.getElem?_eq_getElem (by cases l with|nil=>exact absurd rfl hl|cons x r=>exact Nat.succ_pos _)⟩
  have h6:=h5 0 n hn;rw[ha.cell]at h6;simp at h6
structure NvA (w0 w3:World) (S:Int) (xb ob:Nat) (xc:Array Value) (tv dv:Value) (tl dl:List Int) (v:Value) (pls:List PlV) (wr:World):Prop where
 row:OwnRow plcells 9 38 w0.heap.size wr v pls
 each:∀ y∈pls,PlNew w0.heap.size S wr y
 box:HeapIs wr xb xc 36
 tk:Zy .i64 wr tv tl
 dk:Zy .i64 wr dv dl
 old:Since w0 wr
 at_:∀ q,v.ownBlock=some q→q=ob∨w3.heap.size≤q
 far:(tl≠[]→∀ q,tv.ownBlock=some q→q≠ob∧q<w3.heap.size)∧(dl≠[]→∀ q,dv.ownBlock=some q→q≠ob∧q<w3.heap.size)
 size:w3.heap.size≤wr.heap.size
section
variable {w0 w3 wr w2 w6:World} {S : Int} {xb ob:Nat} {xc:Array Value} {tv dv v v':Value} {tl dl:List Int} {pls ys:List PlV}
theorem NvA.keep (h:NvA w0 w3 S xb ob xc tv dv tl dl v pls wr) (s:Since wr w2):NvA w0 w3 S xb ob xc tv dv tl dl v pls w2:=
 ⟨h.row.keep s,fun y hy=>(h.each y hy).keep s,h.box.keep s,h.tk.keep s,h.dk.keep s,h.old.trans s,h.at_,h.far,Nat.le_trans h.size s.size⟩
theorem NvA.add (h:NvA w0 w3 S xb ob xc tv dv tl dl v pls wr) (ha:OwnRow plcells 9 38 w0.heap.size w6 v' (pls++ys)) (t:Zb (fun q=>v.ownBlock=some q) wr w6) (hb:Yb wr v v') (hy:∀ y∈ys,PlNew w0.heap.size S wr y):NvA w0 w3 S xb ob xc tv dv tl dl v' (pls++ys) w6:=by
 have hc:∀ q,v.ownBlock=some q→w0.heap.size≤q:=fun q hq=>(World.ownsRow.lt (show wr.ownsRow _ _ _ _ _ _ from h.row) q hq).1
 refine⟨ha,fun y hm=>?_,h.box.turn t (Zn h.row h.box zaJ),Vn h.tk t fun hl q hq e=>?_,Vn h.dk t fun hl q hq e=>?_,t.toSince h.old fun k hk e=>by have:=hc k e;omega,fun q hq=>?_,h.far,Nat.le_trans h.size t.size⟩
 ·rcases List.mem_append.1 hm with hm|hm
  ·exact (h.each y hm).turn h.row t
  ·exact (hy y hm).turn h.row t
 ·have h1:=h.far.1 hl q hq;rcases h.at_ q e with h2|h2
  ·exact h1.1 h2
  ·omega
 ·have h1:=h.far.2 hl q hq;rcases h.at_ q e with h2|h2
  ·exact h1.1 h2
  ·omega
 ·rcases hb q hq with h1|h1
  ·exact h.at_ q h1
  ·exact .inr (Nat.le_trans h.size h1)
end
def rangeI (k:Nat):List Int:=(List.range k).map fun (t:Nat)=>(t:Int)
theorem Za9 (k:Nat):rangeI (k+1)=rangeI k++[(k:Int)]:=by unfold rangeI;rw[List.range_succ,List.map_append];rfl
theorem WQ (k:Nat):(rangeI k).length=k:=by unfold rangeI;simp
def MidN (w8:World) (m:Mach) (yb:Nat) (e:Int) (wx:World):Prop:=∃ a c,HeapIs wx yb #[.int .i64 m.op,.int .i64 0,.int .i64 e,.int .i64 0,.int .i64 (nvM m).b,.int .i64 (nvM m).c,.int .i32 m.imm,.slice a (nvM m).args.length c] 36∧wx.ownsRow w8.heap.size 3 1 (.slice a (nvM m).args.length c) (nvM m).args.length ((nvM m).args.map (Value.int .i64))∧Since w8 wx
theorem ZcY (x:MaV) (frm:Int) (w:World) (S:Int) (hx:Zd w x.av x.m.args) (hg:MGood x.m) (hr:∀ r∈takes7 x.m++makes7 x.m,r<S) (hS:S≤16384) (hf:0≤frm∧frm≤5000) :
  Calls prog 79 #[mav x,.int .i64 frm] w (fun e w'=>∃ v,e=.returned v∧GoodRow w.heap.size S 7 v w'∧Since w w'):=by
 obtain⟨m,av⟩:=x;dsimp only at hx hg hr;have H7:=hg.few;have HV:=hid (VQ hg);have H2:=hid (KN (i:=m));have HU:=hid (fun r (h:r∈takes7 m)=>And.intro (QC hg r h).1 (hr r (List.mem_append_left _ h)))
 have H1:=hid (fun r (h:r∈makes7 m)=>And.intro (QT hg r h).1 (hr r (List.mem_append_right _ h)))
 have HG:=hid hg;have HX:=hid hx;clear hx hg hr;unfold mav;dsimp only;go_enter func79,ntmps79
 go_upto_region 2 with fail
 obtain⟨xc,Hm⟩:∃ z:Array Value,z=#[.int .i64 m.op,.int .i64 m.d,.int .i64 m.e,.int .i64 m.a,.int .i64 m.b,.int .i64 m.c,.int .i32 m.imm,av]:=⟨_,rfl⟩
 obtain⟨w1,hJ⟩:∃ z,z=(w.alloc (.cells xc 36)).alloc (.cells #[] 38):=⟨_,rfl⟩
 have HC:=zH (Since w w1) (by rw[hJ];exact ((Since.refl w).alloc _).alloc _)
 obtain⟨xb,Hn⟩:∃ z,z=w.heap.size:=⟨_,rfl⟩
 obtain⟨ob,Hr⟩:∃ z,z=w.heap.size+1:=⟨_,rfl⟩
 have He:=zH (HeapIs w1 xb xc 36) (by rw[hJ,Hn];exact (HeapIs.new _ _ _).keep ((Since.refl _).alloc _))
 have HL:=hid (show HeapIs w1 ob #[] 38 from by
  rw[hJ,Hr];have h9:=HeapIs.new (w.alloc (.cells xc 36)) #[] 38;rw[show (w.alloc (.cells xc 36)).heap.size=w.heap.size+1 from by simp]at h9;exact h9)
 rw[←Hm,←hJ,←Hr,←Hn];have HZ:=zH (w.heap.size≤ob) zaK;have Hc:=hid Hm;clear hJ Hn Hr Hm;have hN:HeapIs w1 xb #[.int .i64 m.op,.int .i64 m.d,.int .i64 m.e,.int .i64 m.a,.int .i64 m.b,.int .i64 m.c,.int .i32 m.imm,av] 36:=by rw[←Hc.out];exact He.out
 go_wp2_with (refine wpList_load_row rfl _ _ rfl xb rfl 36 _ (0,0) _ hN underlying36 rfl zaF ?_)
 refine (Vx m av w1 (HX.out.keep HC.out) zaK).mono ?_;rintro e w2 ⟨tv,rfl,hK,hM⟩;have Hf:=hid hK;have hQ:=hid hM;clear hK hM hN;have hN:HeapIs w2 xb #[.int .i64 m.op,.int .i64 m.d,.int .i64 m.e,.int .i64 m.a,.int .i64 m.b,.int .i64 m.c,.int .i32 m.imm,av] 36:=by rw[←Hc.out];exact He.out.keep hQ.out
 go_wp2_with (refine wpList_load_row rfl _ _ rfl xb rfl 36 _ (0,0) _ hN underlying36 rfl zaF ?_)
 refine (Vy m av w2 (HX.out.keep (HC.out.trans hQ.out)) zaK).mono ?_;rintro e w3 ⟨dv,rfl,Ha,hF⟩;have hW:=hid (HL.out.keep (hQ.out.trans hF));have HN:=hid (show NvA w w3 S xb ob xc tv dv (takes7 m) (makes7 m) (.slice (some ⟨ob,0,none⟩) 0 0) [] w3 from
  ⟨⟨by simp,.inr ⟨ob,0,#[],rfl,HZ.out,hW.out,by simp,by unfold maxLen;omega,by simp,by simp⟩⟩,fun y hy=>(by cases hy),He.out.keep (hQ.out.trans hF),Hf.out.keep hF,Ha,(HC.out.trans hQ.out).trans hF,fun q hq=>.inl (Option.some.inj hq).symm,⟨fun hl q hq=>ZaC (Hf.out.keep hF) hW.out hl q hq,fun hl q hq=>ZaC Ha hW.out hl q hq⟩,Nat.le_refl _⟩)
 obtain⟨ta,tc,hK⟩:=Zc Hf.out;obtain⟨da,dc,Hu⟩:=Zc Ha;obtain⟨tn,h5⟩:∃ z,(takes7 m).length=z:=⟨_,rfl⟩
 obtain⟨dn,Hb⟩:∃ z,(makes7 m).length=z:=⟨_,rfl⟩
 rw[h5]at hK;rw[Hb]at Hu;subst hK Hu;have Hz:=hid h5;have H0:=hid Hb;have H3:tn≤4:=by rw[←h5];exact HV.out
 have H6:dn≤2:=by rw[←Hb];exact H2.out
 clear Ha hF hN h5 Hb Hf HL He;go_wp2_with fail
 go_loopw [5,8] (fun ov kv wr=>∃ (k:Nat) (v:Value) (pls:List PlV),ov=v∧kv=.int .i64 k∧k≤tn∧pls.length=k∧NvA w w3 S xb ob xc (.slice ta tn tc) (.slice da dn dc) (takes7 m) (makes7 m) v pls wr) (fun _ kv _=>tn-(intOf kv).toNat)
 case atStart=>exact⟨0,_,[],rfl,rfl,Nat.zero_le _,rfl,HN.out⟩
 case round =>
  obtain⟨k,v,pls,rfl,rfl,hk,hu,hj⟩:=hrel;obtain⟨va,vc,hv⟩:=OwnRow.shape hj.row;rw[hu]at hv;subst hv;have ha:=hid hj;have hp:=hid hu;clear hj hu HN;by_cases Hs:k<tn
  ·obtain⟨r,hr⟩:∃ r,(takes7 m)[k]? = some r:=⟨_,List.getElem?_eq_getElem (by rw[Hz.out];exact Hs)⟩
   obtain⟨TB,toff,rfl,HT,Hv⟩:=YI ha.out.tk hr;have Hq:=HU.out r (List.mem_of_getElem? hr);clear hr;go_wp2_with fail
   refine (WS k r wr zaK zaK).mono ?_;rintro e w4 ⟨rfl,hL⟩;have HB:=hid hL;clear hL Hv;have hb:=hid (ha.out.keep HB.out);have ho:=zH (PlNew w.heap.size S w4 (YA 30 k r)) (PlNew.laid (.inl rfl) zaK Hq hS);go_wp2_with (refine Z3 (base:=w.heap.size) plcells 9 Zq zaJ rfl _ _ 30 rfl 38 (.agg #[.int .i64 0,.int .i64 0,.int .i64 0,.int .i64 0,.int .i64 0,.int .i64 0,.int .i32 0,.slice none 0 0,.int .i64 0]) 88 underlying30 zaF rfl zaJ (.slice va k vc) (.slice (some ⟨w4.heap.size,0,none⟩) 1 1) pls [YA 30 k r] rfl rfl (hb.out.keep ((Since.refl _).alloc _)).row (XD Zq zaJ (Zea (HeapIs.new _ _ _))) (WA (fun y hy=>by rw[List.mem_singleton.1 hy];exact ho.out)) (by have:=hp.out;simp;omega) (by have:=hb.out.old.size;simp;omega) ?_;intro v' w6 hc ht hd;have hn:=hid ((hb.out.keep ((Since.refl _).alloc _)).add hc ht hd (fun y hy=>by rw[List.mem_singleton.1 hy];exact ho.out.keep ((Since.refl _).alloc _)));clear hc ht hd)
   go_roundw
   case rel=>exact⟨k+1,_,pls++[YA 30 k r],by trivial,by go_num,zaK,by rw[List.length_append,hp.out];rfl,hn.out⟩
   case measure=>simp[intOf];omega
  ·obtain rfl:tn=k:=zaK
   obtain⟨wA,HS⟩:∃ z,z=wr:=⟨_,rfl⟩
   subst HS;have H9:=hid ha.out.tk;have hI:HeapIs wA xb #[.int .i64 m.op,.int .i64 m.d,.int .i64 m.e,.int .i64 m.a,.int .i64 m.b,.int .i64 m.c,.int .i32 m.imm,av] 36:=by rw[←Hc.out];exact ha.out.box
   have Ho:=hI.cell 0;have HR:=hI.cell 6;have Hl:=hI.lt
   go_upto_if 39 with fail
   obtain⟨yb,hZ⟩:∃ z,z=wA.heap.size:=⟨_,rfl⟩
   obtain⟨w8,h4⟩:∃ z,z=wA.alloc (.cells #[.int .i64 m.op,.int .i64 0,.int .i64 0,.int .i64 0,.int .i64 0,.int .i64 0,.int .i32 m.imm,.slice none 0 0] 36):=⟨_,rfl⟩
   have hG:=zH (HeapIs w8 yb #[.int .i64 m.op,.int .i64 0,.int .i64 0,.int .i64 0,.int .i64 0,.int .i64 0,.int .i32 m.imm,.slice none 0 0] 36) (by rw[h4,hZ];exact HeapIs.new _ _ _);have Hg:=zH (Since wA w8) (by rw[h4];exact (Since.refl wA).alloc _)
   have Hx:=zH (wA.heap.size≤yb) (Nat.le_of_eq hZ.symm);rw[←h4,←hZ];clear h4 hZ hI Ho HR Hl
   go_cut [] from 37 to 63 (fun wx=>MidN wA m yb 0 wx)
   case first =>
    have td:=zH (w8.heap.size≥yb) (by have:=hG.out.lt;omega);have hy:=hG.out;have hY:=hy.lt;have Hj:=hy.frozen;have HF:=hy.cell 2;have HQ:=hy.cell 4;have HP:=hy.cell 5;have Hk:=hy.cell 7;clear hy;obtain⟨bq,he⟩:∃ z,(m.op==28)=z:=⟨_,rfl⟩
    rw[he]
    cases bq
    ·have hB:=zH (¬ m.op=28) zav;clear he;have hz:(nvM m).args=[]:=if_neg hB.out;have hP:(nvM m).b=if 1<(takes7 m).length then 1 else 0:=if_neg hB.out;have hO:(nvM m).c=if 2<(takes7 m).length then 2 else 0:=if_neg hB.out;rw[Hz.out]at hP hO;have hC:=hid (And.intro hz (And.intro hP hO));clear hz hP hO;have Ht:∀ (wx:World) (bb cc:Int),(nvM m).b=bb→(nvM m).c=cc→HeapIs wx yb #[.int .i64 m.op,.int .i64 0,.int .i64 0,.int .i64 0,.int .i64 bb,.int .i64 cc,.int .i32 m.imm,.slice none 0 0] 36→Since wA wx→MidN wA m yb 0 wx:=fun wx bb cc e1 e2 hh hs=>by
      unfold MidN;rw[hC.out.1,e1,e2];exact⟨none,0,hh,⟨rfl,.inl ⟨rfl,rfl⟩⟩,hs⟩
     have hX:=hid Ht;have hj:∀ (wx:World) (j:Nat) (v:Value),Since wA wx→Since wA (wx.setCell ⟨yb,j,none⟩ v):=fun wx j v hs=>((Zb.refl (fun q=>q=yb) wx).setCell (p:=⟨yb,j,none⟩) rfl _).toSince hs fun q hq e=>by have:=Hx.out;omega
     have hT:=hid hj;clear Ht hj;by_cases h1:1<tn
     ·by_cases h2:2<tn
      ·go_wp2_with fail
       go_meet
       exact hX.out _ 1 2 (by rw[hC.out.2.1,if_pos h1]) (by rw[hC.out.2.2,if_pos h2]) ((hG.out.set 4 _).set 5 _) (hT.out _ _ _ (hT.out _ _ _ Hg.out))
      ·go_wp2_with fail
       go_meet
       exact hX.out _ 1 0 (by rw[hC.out.2.1,if_pos h1]) (by rw[hC.out.2.2,if_neg h2]) (hG.out.set 4 _) (hT.out _ _ _ Hg.out)
     ·have h2:¬ 2<tn:=zaK
      go_wp2_with fail
      go_meet
      exact hX.out _ 0 0 (by rw[hC.out.2.1,if_neg h1]) (by rw[hC.out.2.2,if_neg h2]) hG.out Hg.out
    ·have hB:=zH (m.op=28) zav;clear he;go_wp2_with fail
     go_loopw [10] (fun kv wx=>∃ (k:Nat) (a:Option Addr) (c:Nat),kv=.int .i64 k∧k≤tn∧HeapIs wx yb #[.int .i64 m.op,.int .i64 0,.int .i64 0,.int .i64 0,.int .i64 0,.int .i64 0,.int .i32 m.imm,.slice a k c] 36∧wx.ownsRow wA.heap.size 3 1 (.slice a k c) k ((rangeI k).map (Value.int .i64))∧Since wA wx) (fun kv _=>tn-(intOf kv).toNat)
     case atStart=>exact⟨0,none,0,rfl,Nat.zero_le _,hG.out,⟨rfl,.inl ⟨rfl,rfl⟩⟩,Hg.out⟩
     case round =>
      clear hY Hj HF HQ HP Hk;obtain⟨k2,a2,c2,rfl,H8,hH,h8,hM⟩:=hrel;have Hy:=hid hH;have Hi:=hid h8;have hU:=hid hM;have Hk:=hH.cell 7;have hY:=hH.lt;clear hH h8 hM;by_cases H5:k2<tn
      ·have K1:=zH ((wr.alloc (.cells #[.int .i64 (k2:Int)] 3)).ownsRow wA.heap.size 3 1 (.slice a2 k2 c2) (rangeI k2).length ((rangeI k2).map (Value.int .i64))) (Zv (by rw[WQ];exact Hi.out) ((Since.refl _).alloc _));have K2:=zH ((rangeI k2).length + [(k2:Int)].length≤1000000) (by rw[WQ];simp;omega);have K3:=zH (wA.heap.size≤(wr.alloc (.cells #[.int .i64 (k2:Int)] 3)).heap.size) (by have:=hU.out.size;simp;omega);have K4:=zH (HeapIs (wr.alloc (.cells #[.int .i64 (k2:Int)] 3)) yb #[.int .i64 m.op,.int .i64 0,.int .i64 0,.int .i64 0,.int .i64 0,.int .i64 0,.int .i32 m.imm,.slice a2 k2 c2] 36) (Hy.out.keep ((Since.refl _).alloc _));have K5:=zH (¬ (Value.slice a2 k2 c2).ownBlock=some yb) (Zn Hi.out Hy.out zaJ);go_wp2_with (refine Zl (base:=wA.heap.size) .i64 rfl _ _ 22 rfl 3 (.int .i64 0) 8 underlying22 Tryz.info3 rfl zaJ (.slice a2 k2 c2) _ (rangeI k2) [(k2:Int)] rfl rfl K1.out (Ym _ _ _) K2.out K3.out ?_;intro v6 w6 hw Hp HD;obtain⟨a6,c6,HH⟩:=Ze hw;rw[←Za9,WQ]at hw HH;subst HH;have hA:=K4.out.turn Hp K5.out;have HJ:=hid hA;have Hk:=hA.cell 7;have hY:=hA.lt;have Hj:=hA.frozen;have HM:=hid hw;have HW:=zH (Since wA w6) (Hp.toSince (hU.out.trans ((Since.refl _).alloc _)) fun q hq e=>by have:=(World.ownsRow.lt Hi.out q e).1;omega);clear hA hw Hp HD)
       go_roundw
       case rel=>exact⟨k2+1,a6,c6,by go_num,zaK,HJ.out.set 7 _,Zg HM.out ((Zb.refl (fun q=>q=yb) w6).setCell (p:=⟨yb,7,none⟩) rfl _) (fun q hq e=>Zn HM.out HJ.out zaJ (e ▸ hq)),((Zb.refl (fun q=>q=yb) w6).setCell (p:=⟨yb,7,none⟩) rfl _).toSince HW.out fun q hq e=>by have:=Hx.out;omega⟩
       case measure=>simp[intOf];omega
      ·obtain rfl:tn=k2:=zaK
       go_wp2_with fail
       go_meet
       have hz:(nvM m).args=rangeI (takes7 m).length:=if_pos hB.out;have hP:(nvM m).b=0:=if_pos hB.out;have hO:(nvM m).c=0:=if_pos hB.out;unfold MidN;rw[hz,WQ,hP,hO,Hz.out];exact⟨a2,c2,Hy.out,Hi.out,hU.out⟩
   case rest =>
    obtain⟨a9,c9,hD,hi,hE⟩:=hcut;have hm:=hid hD;have Hh:=hid hi;have HA:=hid hE;have hR:HeapIs wc xb #[.int .i64 m.op,.int .i64 m.d,.int .i64 m.e,.int .i64 m.a,.int .i64 m.b,.int .i64 m.c,.int .i32 m.imm,av] 36:=by rw[←Hc.out];exact ha.out.box.keep hE
    have Ho:=hR.cell 0;have Hl:=hR.lt;clear hD hi hE hR
    go_upto_if 62 with fail
    clear Ho Hl
    go_cut [] from 60 to 63 (fun wx=>MidN wA m yb (nvM m).e wx)
    case first =>
     have hY:=hm.out.lt;have Hj:=hm.out.frozen;have HF:=hm.out.cell 2;obtain⟨bq,he⟩:∃ z,(m.op==29)=z:=⟨_,rfl⟩
     rw[he]
     cases bq
     ·have HE:=zH ((nvM m).e=0) (if_neg zav);clear he;go_wp2_with fail
      go_meet
      unfold MidN;rw[HE.out];exact⟨a9,c9,hm.out,Hh.out,HA.out⟩
     ·have HE:=zH ((nvM m).e=1) (if_pos zav);clear he;go_wp2_with fail
      go_meet
      unfold MidN;rw[HE.out];have t9:Zb (fun q=>q=yb) wc (wc.setCell ⟨yb,2,none⟩ (.int .i64 1)):=(Zb.refl (fun q=>q=yb) wc).setCell (p:=⟨yb,2,none⟩) rfl _;exact⟨a9,c9,hm.out.set 2 _,Zg Hh.out t9 (fun q hq e=>Zn Hh.out hm.out zaJ (e ▸ hq)),t9.toSince HA.out fun q hq e=>by have:=Hx.out;omega⟩
    case rest =>
     clear hm Hh HA;obtain⟨a9,c9,hD,hi,hE⟩:=hcut;obtain⟨an,Hw⟩:∃ z,(nvM m).args.length=z:=⟨_,rfl⟩
     rw[Hw]at hD hi;have hm:=hid hD;have hb:=hid (ha.out.keep hE);have ho:=hid (show PlNew w.heap.size S wc ⟨nvM m,.slice a9 an c9,frm⟩ from⟨by
      rw[Hw];obtain⟨h0,h1|⟨g,c,u,h1,h2,h3⟩⟩:=hi
      ·exact⟨h0,.inl h1⟩
      ·exact⟨h0,.inr ⟨g,c,u,h1,Nat.le_trans ha.out.old.size h2,h3⟩⟩,Zeq HG.out S,by show -1≤frm∧frm≤5000;omega⟩)
     have HK:=hid (fun (wx:World)=>show RowIn plcells 9 (fun _ _=>True) (wx.alloc (.cells #[.int .i64 m.op,.int .i64 0,.int .i64 (nvM m).e,.int .i64 0,.int .i64 (nvM m).b,.int .i64 (nvM m).c,.int .i32 m.imm,.slice a9 an c9,.int .i64 frm] 38)) (.slice (some ⟨wx.heap.size,0,none⟩) 1 1) [⟨nvM m,.slice a9 an c9,frm⟩] from X7 [⟨nvM m,.slice a9 an c9,frm⟩] _ (ZdX plcells _) (HeapIs.new _ _ _) 1 rfl (by show 1≤1000;omega))
     clear hD hi hE Hw;go_wp2_with (first | refine wpList_load_row rfl _ _ rfl yb rfl 36 _ (0,0) _ hm.out underlying36 rfl zaF ?_ | (refine Z3 (base:=w.heap.size) plcells 9 Zq zaJ rfl _ _ 30 rfl 38 (.agg #[.int .i64 0,.int .i64 0,.int .i64 0,.int .i64 0,.int .i64 0,.int .i64 0,.int .i32 0,.slice none 0 0,.int .i64 0]) 88 underlying30 zaF rfl zaJ (.slice va tn vc) (.slice (some ⟨wc.heap.size,0,none⟩) 1 1) pls [⟨nvM m,.slice a9 an c9,frm⟩] rfl rfl (hb.out.keep ((Since.refl _).alloc _)).row (XD Zq zaJ (HK.out wc)) (WA (fun y hy=>by rw[List.mem_singleton.1 hy];exact ho.out)) (by have:=hp.out;simp;omega) (by have:=hb.out.old.size;simp;omega) ?_;intro v' w6 hc ht hd;have hn:=hid ((hb.out.keep ((Since.refl _).alloc _)).add hc ht hd (fun y hy=>by rw[List.mem_singleton.1 hy];exact ho.out.keep ((Since.refl _).alloc _)));clear hc ht hd))
     obtain⟨pn,HI⟩:∃ z,tn+1=z:=⟨_,rfl⟩
     have hV:=zH ((pls++[(⟨nvM m,.slice a9 an c9,frm⟩:PlV)]).length=pn) (by rw[List.length_append,hp.out,←HI];rfl);obtain⟨pls2,h7⟩:∃ z,z=pls++[(⟨nvM m,.slice a9 an c9,frm⟩:PlV)]:=⟨_,rfl⟩
     rw[←h7]at hV hn;have H4:pn≤5:=zaK
     clear h7 HI hp hb ho HK hm
     go_loopw [5,11] (fun ov kv wr=>∃ (k:Nat) (v:Value) (pls:List PlV),ov=v∧kv=.int .i64 k∧k≤dn∧pls.length=pn+k∧NvA w w3 S xb ob xc (.slice ta tn tc) (.slice da dn dc) (takes7 m) (makes7 m) v pls wr) (fun _ kv _=>dn-(intOf kv).toNat)
     case atStart=>exact⟨0,_,pls2,rfl,rfl,Nat.zero_le _,hV.out,hn.out⟩
     case round =>
      clear hn hV;obtain⟨k,v,pls,rfl,rfl,hk,hu,hj⟩:=hrel;obtain⟨va,vc,hv⟩:=OwnRow.shape hj.row;obtain⟨ql,h6⟩:∃ z,pn+k=z:=⟨_,rfl⟩
      rw[hu,h6]at hv;rw[h6]at hu;subst hv;have ha:=hid hj;have hp:=hid hu;have HY:=hid h6;have HO:ql≤7:=zaK
      clear hj hu h6;by_cases Hs:k<dn
      ·obtain⟨r,hr⟩:∃ r,(makes7 m)[k]? = some r:=⟨_,List.getElem?_eq_getElem (by rw[H0.out];exact Hs)⟩
       obtain⟨TB,toff,rfl,HT,Hv⟩:=YI ha.out.dk hr;have Hq:=H1.out r (List.mem_of_getElem? hr);clear hr;go_wp2_with fail
       refine (WR k r wr zaK zaK).mono ?_;rintro e w4 ⟨rfl,hL⟩;have HB:=hid hL;clear hL Hv;have hb:=hid (ha.out.keep HB.out);have ho:=zH (PlNew w.heap.size S w4 (YA 31 k r)) (PlNew.laid (.inr rfl) zaK Hq hS);go_wp2_with (refine Z3 (base:=w.heap.size) plcells 9 Zq zaJ rfl _ _ 30 rfl 38 (.agg #[.int .i64 0,.int .i64 0,.int .i64 0,.int .i64 0,.int .i64 0,.int .i64 0,.int .i32 0,.slice none 0 0,.int .i64 0]) 88 underlying30 zaF rfl zaJ (.slice va ql vc) (.slice (some ⟨w4.heap.size,0,none⟩) 1 1) pls [YA 31 k r] rfl rfl (hb.out.keep ((Since.refl _).alloc _)).row (XD Zq zaJ (Zd9 (HeapIs.new _ _ _))) (WA (fun y hy=>by rw[List.mem_singleton.1 hy];exact ho.out)) (by have:=hp.out;simp;omega) (by have:=hb.out.old.size;simp;omega) ?_;intro v' w6 hc ht hd;have hn:=hid ((hb.out.keep ((Since.refl _).alloc _)).add hc ht hd (fun y hy=>by rw[List.mem_singleton.1 hy];exact ho.out.keep ((Since.refl _).alloc _)));clear hc ht hd)
       go_roundw
       case rel=>exact⟨k+1,_,pls++[YA 31 k r],by trivial,by go_num,zaK,by rw[List.length_append,hp.out,←HY.out];rfl,hn.out⟩
       case measure=>simp[intOf];omega
      ·obtain rfl:dn=k:=zaK
       go_wp2_with fail
       go_ret
       exact⟨_,rfl,⟨pls,by rw[hp.out];exact HO,Z0 Zq ha.out.row fun _ _=>trivial,ha.out.each⟩,ha.out.old⟩
structure Vj (t:Int) (b:MBlkV):Prop where
 dst:∀ p∈b.phis,p.dst<t
 val:∀ p∈b.phis,∀ y∈p.ins,y.2<t
 ins:∀ x∈b.ins,∀ r∈takes7 x.m++makes7 x.m,r<t
 need:∀ r∈needs b.fin,r<t
theorem ZaE {n : Nat} {e : ZY} (h:Vh n e):(∀ r∈needs e,0≤r∧r<10000)∧(needs e).length≤2:=by
 have ho:=h.op;have ha:=h.a;have hb:=h.b;unfold needs;split
 ·refine⟨fun r hr=>?_,by simp⟩;rw[List.mem_singleton]at hr;subst hr
  rename_i hc
  omega
 ·split
  ·refine⟨fun r hr=>?_,by simp⟩;simp only[List.mem_cons,List.not_mem_nil,or_false]at hr
   rename_i hc
   rcases hr with rfl|rfl
   ·omega
   ·omega
  ·exact⟨fun r hr=>(by cases hr),by simp⟩
theorem Vj.mono {t t':Int} {b : MBlkV} (h:Vj t b) (ht:t≤t'):Vj t' b:=
 ⟨fun p hp=>by have:=h.dst p hp;omega,fun p hp y hy=>by have:=h.val p hp y hy;omega,fun x hx r hr=>by have:=h.ins x hx r hr;omega,fun r hr=>by have:=h.need r hr;omega⟩
theorem Zct (g:Vg) (w:World) (h:Vw w g) (hg:Zai g) :
  Calls prog 78 #[mfv g] w (fun e w'=>∃ t:Int,e=.returned (.int .i64 t)∧(g.params≤t∧t≤10000)∧(∀ b∈g.blocks,Vj t b)∧Since w w'):=by
 obtain⟨params,bs,bv⟩:=g;obtain⟨n,hE⟩:∃ n,bs.length=n:=⟨_,rfl⟩
 have t0:1≤n∧n≤9:=by rw[←hE];exact hg.blocks
 obtain⟨BB,boff,bc,rfl⟩:∃ BB boff bc,bv=.slice (some ⟨BB,boff,none⟩) n bc:=by
  rcases (show RowIn mbcells 7 MBlkIn w bv bs from h) with ⟨a,_,h2⟩|⟨B,off,cap,h1,_⟩
  ·rw[h2]at hE;simp at hE;omega
  ·exact⟨B,off,cap,by rw[h1,hE]⟩
 have tX:0≤params∧params≤4:=hg.params;have HG:=hid hg;have tL:=zH (RowIn mbcells 7 MBlkIn w (.slice (some ⟨BB,boff,none⟩) n bc) bs) h;have Hw:=hid hE;clear h hg hE;unfold mfv;dsimp only;go_enter func78,ntmps78
 go_upto_region 3 with fail
 obtain⟨xb,Hf⟩:∃ z,z=w.heap.size:=⟨_,rfl⟩
 obtain⟨w1,hO⟩:∃ z,z=w.alloc (.cells #[.int .i64 params,.slice (some ⟨BB,boff,none⟩) n bc] 101):=⟨_,rfl⟩
 have tH:=zH (HeapIs w1 xb #[.int .i64 params,.slice (some ⟨BB,boff,none⟩) n bc] 101) (by rw[hO,Hf];exact HeapIs.new _ _ _);have HU:=zH (Since w w1) (by rw[hO];exact (Since.refl w).alloc _)
 rw[←hO,←Hf];clear hO Hf
 go_loopw [3,4] (fun tv bv wr=>∃ (t:Int) (b:Nat),tv=.int .i64 t∧bv=.int .i64 b∧b≤n∧(params≤t∧t≤10000)∧(∀ (j:Nat) (x:MBlkV),j<b→bs[j]? = some x→Vj t x)∧Since w1 wr) (fun _ bv _=>n-(intOf bv).toNat)
 case atStart=>exact⟨params,0,rfl,rfl,Nat.zero_le _,⟨Int.le_refl _,zaK⟩,(fun j x hj=>by omega),.refl _⟩
 case round =>
  obtain⟨t1,b,rfl,rfl,hb,HE,hY,Hj⟩:=hrel;obtain⟨wB,tf⟩:∃ z,z=wr:=⟨_,rfl⟩
  subst tf;have Hb:=hid hY;have Ht:=hid Hj;have hm:=tH.out.keep Hj;have td:=hm.cell 1;have H9:=hm.lt;clear hY Hj hm;by_cases tq:b<n
  ·obtain⟨B1,o1,y,he,hB,hy,ho,hA⟩:=RowIn.at (RowIn.keep MBlkIn.keep tL.out (HU.out.trans Ht.out)) (show b<bs.length by rw[Hw.out];exact tq)
   cases he
   have Hc:=List.mem_of_getElem? hy;have hw:=HG.out.each y Hc;rw[show (⟨params,bs,.slice (some ⟨BB,boff,none⟩) n bc⟩:Vg).blocks.length=n from Hw.out]at hw;have hG:=hid hw;have HY:=hid hy;obtain⟨phs,phv,ins,insv,⟨eop,ea,eb,eto,etov,eimm⟩⟩:=y;have hM:=hid hA;have tD:wB.cell? ⟨BB,boff+b*7,none⟩=some phv:=ho 0 zaJ;have tC:wB.cell? ⟨BB,boff+b*7+1,none⟩=some insv:=ho 1 zaJ;have tB:wB.cell? ⟨BB,boff+b*7+2,none⟩=some (.int .i64 eop):=ho 2 zaJ;have tA:wB.cell? ⟨BB,boff+b*7+3,none⟩=some (.int .i64 ea):=ho 3 zaJ;have tz:wB.cell? ⟨BB,boff+b*7+4,none⟩=some (.int .i64 eb):=ho 4 zaJ;have tx:wB.cell? ⟨BB,boff+b*7+5,none⟩=some etov:=ho 5 zaJ;have tw:wB.cell? ⟨BB,boff+b*7+6,none⟩=some (.int .i32 eimm):=ho 6 zaJ;obtain⟨pa,pc,HJ,_⟩:=RowIn.shape (show RowIn fpcells 2 YJ wB phv phs from hA.1);obtain⟨ia,ic,HM,_⟩:=RowIn.shape (show RowIn Yd 8 WN wB insv ins from hA.2.1)
   obtain⟨ta,tc,HB⟩:=Zc hA.2.2;obtain⟨pl,hR⟩:∃ z,phs.length=z:=⟨_,rfl⟩
   obtain⟨il,hU⟩:∃ z,ins.length=z:=⟨_,rfl⟩
   dsimp only at HB;rw[hR]at HJ;rw[hU]at HM;subst HJ HM HB;have Hu:=hid hR;have HZ:=hid hU;have tQ:pl≤3:=by rw[←hR];exact hw.few
   have tU:il≤3600:=by rw[←hU];exact Nat.le_trans (Xf (List.mem_map.2 ⟨_,Hc,rfl⟩)) HG.out.total
   clear hy ho hA Hc hw hR hU;go_upto_region 6 with fail
   obtain⟨nb,Hl⟩:∃ z,z=wB.heap.size:=⟨_,rfl⟩
   obtain⟨w3,hN⟩:∃ z,z=wB.alloc (.cells #[.slice pa pl pc,.slice ia il ic,.int .i64 eop,.int .i64 ea,.int .i64 eb,.slice ta eto.length tc,.int .i32 eimm] 135):=⟨_,rfl⟩
   have h5:=zH (HeapIs w3 nb #[.slice pa pl pc,.slice ia il ic,.int .i64 eop,.int .i64 ea,.int .i64 eb,.slice ta eto.length tc,.int .i32 eimm] 135) (by rw[hN,Hl];exact HeapIs.new _ _ _);have Tc:=zH (Since w3 w3) (Since.refl _);have Hr:=zH (Since wB w3) (by rw[hN];exact (Since.refl _).alloc _)
   rw[←hN,←Hl];have H6:=hid (RowIn.keep YJ.keep (show RowIn fpcells 2 YJ wB (.slice pa pl pc) phs from hM.out.1) Hr.out)
   have H8:=hid (RowIn.keep WN.keep (show RowIn Yd 8 WN wB (.slice ia il ic) ins from hM.out.2.1) Hr.out)
   clear hN Hl tD tC tB tA tz tx tw td H9;have tp:=h5.out.cell 0;have Hk:=h5.out.lt;go_wp2_with fail
   go_loopw [3,6] (fun tv iv wx=>∃ (t:Int) (i:Nat),tv=.int .i64 t∧iv=.int .i64 i∧i≤pl∧(t1≤t∧t≤10000)∧(∀ (j:Nat) (p:YW),j<i→phs[j]? = some p→p.dst<t∧∀ y∈p.ins,y.2<t)∧wx=w3) (fun _ iv _=>pl-(intOf iv).toNat)
   case atStart=>exact⟨t1,0,rfl,rfl,Nat.zero_le _,⟨Int.le_refl _,HE.2⟩,(fun j p hj=>by omega),rfl⟩
   case round =>
    obtain⟨t2,i,rfl,rfl,hi,Hh,hX,hf⟩:=hrel;have e9:=hf.symm;clear hf;subst e9;have hH:=hid hX;clear hX;by_cases tt:i<pl
    ·obtain⟨PB,poff,p,rfl,Tb,hp,Ho,hL⟩:=RowIn.at H6.out (by rw[Hu.out];exact tt);have hS:=hG.out.phis p (List.mem_of_getElem? hp);obtain⟨pd,pin,piv⟩:=p;obtain⟨qa,qc,HI,_⟩:=RowIn.shape (show RowIn prcells 2 (fun _ _=>True) w3 piv pin from hL)
     obtain⟨ql,hQ⟩:∃ z,pin.length=z:=⟨_,rfl⟩
     rw[hQ]at HI;subst HI;have H5:=zH (RowIn prcells 2 (fun _ _=>True) w3 (.slice qa ql qc) pin) hL;have HV:=hid hQ;have HP:=hid hp;have tK:=hid hS;have tZ:w3.cell? ⟨PB,poff+i*2,none⟩=some (.int .i64 pd):=Ho 0 zaJ;have tY:w3.cell? ⟨PB,poff+i*2+1,none⟩=some (.slice qa ql qc):=Ho 1 zaJ;have tR:0≤pd∧pd<700:=hS.1;have tP:ql≤9:=by rw[←hQ];exact hS.2.1
     clear hp hS Ho hL hQ;go_upto_region 10 with fail
     obtain⟨t3,hh⟩:∃ z,z=(if t2<pd+1 then pd+1 else t2):=⟨_,rfl⟩
     rw[←hh];have Hp:t2≤t3∧pd+1≤t3∧t3≤10000:=by rw[hh];split<;>omega
     clear hh;go_wp2_with fail
     go_loopw [3,7] (fun tv iv wx=>∃ (t:Int) (k:Nat),tv=.int .i64 t∧iv=.int .i64 k∧k≤ql∧(t3≤t∧t≤10000)∧(∀ (j:Nat) (y:Int × Int),j<k→pin[j]? = some y→y.2<t)∧wx=w3) (fun _ iv _=>ql-(intOf iv).toNat)
     case atStart=>exact⟨t3,0,rfl,rfl,Nat.zero_le _,⟨Int.le_refl _,Hp.2.2⟩,(fun j y hj=>by omega),rfl⟩
     case round =>
      obtain⟨t4,k,rfl,rfl,hk,tV,hV,hf⟩:=hrel;have e9:=hf.symm;clear hf;subst e9;have h6:=hid hV;clear hV;by_cases ts:k<ql
      ·obtain⟨QB,qoff,y,rfl,Ta,hy,HQ,_⟩:=RowIn.at H5.out (by rw[HV.out];exact ts);have Hz:=(tK.out.2.2 y (List.mem_of_getElem? hy)).2;obtain⟨yf,yv⟩:=y;have tG:=hid hy;have tW:w3.cell? ⟨QB,qoff+k*2+1,none⟩=some (.int .i64 yv):=HQ 1 zaJ;have tO:0≤yv∧yv<700:=Hz;clear hy HQ Hz;go_wp2_with fail
       obtain⟨t5,Hg⟩:∃ z,z=(if t4<yv+1 then yv+1 else t4):=⟨_,rfl⟩
       rw[←Hg];have t8:t4≤t5∧yv+1≤t5∧t5≤10000:=by rw[Hg];split<;>omega
       clear Hg
       go_roundw
       case rel=>exact⟨t5,k+1,by trivial,by go_num,zaK,⟨zaK,zaK⟩,(fun j y2 hj h2=>by
        by_cases e:j=k
        ·subst e;rw[tG.out]at h2;cases h2;show yv<t5;omega
        ·have:=h6.out j y2 zaK h2;omega),by trivial⟩
       case measure=>simp[intOf];omega
      ·obtain rfl:ql=k:=zaK
       go_wp2_with fail
       go_roundw
       case rel=>exact⟨t4,i+1,by trivial,by go_num,zaK,⟨zaK,zaK⟩,(fun j p2 hj h2=>by
        by_cases e:j=i
        ·subst e;rw[HP.out]at h2;cases h2
         exact⟨by show pd<t4;omega,fun y2 h3=>by
          obtain⟨z,hz⟩:=List.getElem?_of_mem h3;exact h6.out z y2 (by have h8:z<pin.length:=(List.getElem?_eq_some_iff.1 hz).1;have:=HV.out;omega) hz⟩
        ·have h4:=hH.out j p2 zaK h2;exact⟨zaK,fun y2 h3=>by have:=h4.2 y2 h3;omega⟩),by trivial⟩
       case measure=>simp[intOf];omega
    ·obtain rfl:pl=i:=zaK
     have Hm:=h5.out.cell 1;go_wp2_with fail
     clear tp Hm Hk
     go_loopw [3,8] (fun tv iv wx=>∃ (t:Int) (i:Nat),tv=.int .i64 t∧iv=.int .i64 i∧i≤il∧(t2≤t∧t≤10000)∧(∀ (j:Nat) (x:MaV),j<i→ins[j]? = some x→∀ r∈takes7 x.m++makes7 x.m,r<t)∧Since w3 wx) (fun _ iv _=>il-(intOf iv).toNat)
     case atStart=>exact⟨t2,0,rfl,rfl,Nat.zero_le _,⟨Int.le_refl _,Hh.2⟩,(fun j x hj=>by omega),.refl _⟩
     case round =>
      obtain⟨t6,t9⟩:∃ z,z=t2:=⟨_,rfl⟩
      obtain⟨t2,i,rfl,rfl,hi,Hh,hW,HF⟩:=hrel;have Ha:=hid hW;have hF:=hid HF;clear hW HF;have hd:=h5.out.keep hF.out;have Hm:=hd.cell 1;have tn:=hd.cell 2;have tm:=hd.cell 3;have tl:=hd.cell 4;have tj:=hd.cell 5;have ti:=hd.cell 6;have Hk:=hd.lt;have Hx:=hid hd;clear hd;by_cases HN:i<il
      ·obtain⟨IB,ioff,x,rfl,Hq,hx,HO,He⟩:=RowIn.at (RowIn.keep WN.keep H8.out hF.out) (by rw[HZ.out];exact HN);have HA:=List.mem_of_getElem? hx;have hI:=hG.out.ins x HA;obtain⟨xm,xav⟩:=x;have HX:=hid hx;have hZ:=zH (Zd wr xav xm.args∧xm.args.length≤1000) ⟨He,by have h8:xm.args.length≤4:=hI.few;omega⟩;have Hs:=zH ((takes7 xm).length≤4) (VQ hI);have HW:=zH ((makes7 xm).length≤2) KN;have hJ:=hid (show ∀ r∈takes7 xm++makes7 xm,0≤r∧r<10000 from fun r hr=>by
        rcases List.mem_append.1 hr with hr|hr
        ·exact QC hI r hr
        ·exact QT hI r hr)
       have H0:=hid (fun (w5:World) (hs:Since wr w5)=>show (∀ t,t<8→w5.cell? ⟨IB,ioff+i*8+t,none⟩=(Yd ⟨xm,xav⟩)[t]?)∧IB<w5.heap.size from⟨fun t ht=>by rw[hs.cell (p:=⟨IB,ioff+i*8+t,none⟩) Hq];exact HO t ht,Nat.lt_of_lt_of_le Hq hs.size⟩)
       clear hx HA hI He HO;go_upto_region 17 with fail
       clear Hm tn tm tl tj ti Hk Hq;refine Zh 14 rfl zaC zaC zaC zaJ
        [IsNilOf 3 wr,Is (.pointer (some ⟨nb,1,none⟩)),Is (.slice (some ⟨IB,ioff,none⟩) il ic),Is (.int .i64 i),Is (.pointer (some ⟨IB,ioff+i*8,none⟩)),Is (mv xm xav),Zo .i64 (takes7 xm),Yx 3 wr (takes7 xm),Is (.pointer (some ⟨nb,1,none⟩)),Is (.slice (some ⟨IB,ioff,none⟩) il ic),Is (.int .i64 i),Is (.pointer (some ⟨IB,ioff+i*8,none⟩)),Is (mv xm xav),Zo .i64 (makes7 xm)]
        (by repeat (first | exact trivial | refine⟨Is.stable _,?_⟩ | refine⟨IsNilOf.stable _ _,?_⟩ | refine⟨Yx.stable _ _ _,?_⟩ | refine⟨Zo.stable _ _,?_⟩)) ⟨?_,?_,?_,?_,?_,?_,?_,?_,?_,?_,?_,?_,?_,?_,trivial⟩ ?_
       rotate_right
       ·intro vs w5 hs hk;revert hk;refine zs0 ?_;intro hk
        have h7:Yx 3 wr (takes7 xm) (vs 7) w5:=by exact hk.2.2.2.2.2.2.2.1
        have HS:Zy .i64 w5 (vs 13) (makes7 xm):=by exact hk.2.2.2.2.2.2.2.2.2.2.2.2.2.1
        generalize vs 7=v7 at *;generalize vs 13=v13 at *;have HT:=hid hs;have H7:=hid h7;have tN:=hid HS;have K2:=zH ((takes7 xm).length+(makes7 xm).length≤1000000) (by have:=Hs.out;have:=HW.out;omega);clear hk hs h7 HS;go_upto_region 18 with (refine Zl (base:=wr.heap.size) .i64 rfl _ _ 22 rfl 3 (.int .i64 0) 8 underlying22 Tryz.info3 rfl zaJ v7 v13 (takes7 xm) (makes7 xm) rfl rfl H7.out tN.out K2.out HT.out.size ?_;intro v6 w6 hT HD Hy;have Hv:=hid hT;have tJ:=zH (Since wr w6) (HD.toSince HT.out fun q hq e=>by have:=(World.ownsRow.lt H7.out q e).1;omega);clear hT HD Hy)
        obtain⟨la,lc,HK⟩:=Ze Hv.out;obtain⟨ll,hn⟩:∃ z,(takes7 xm++makes7 xm).length=z:=⟨_,rfl⟩
        rw[hn]at HK;subst HK;have hK:=hid hn;have tS:ll≤6:=by have:=Hs.out;have:=HW.out;rw[List.length_append]at hn;omega
        have h0:=zH (Zy .i64 w6 (.slice la ll lc) (takes7 xm++makes7 xm)) (by have h9:=ZB Hv.out;exact h9);clear hn;go_wp2_with fail
        go_loopw [3,10] (fun tv iv w7=>∃ (t:Int) (k:Nat),tv=.int .i64 t∧iv=.int .i64 k∧k≤ll∧(t2≤t∧t≤10000)∧(∀ (j:Nat) (r:Int),j<k→(takes7 xm++makes7 xm)[j]? = some r→r<t)∧w7=w6) (fun _ iv _=>ll-(intOf iv).toNat)
        case atStart=>exact⟨t2,0,rfl,rfl,Nat.zero_le _,⟨Int.le_refl _,Hh.2⟩,(fun j r hj=>by omega),rfl⟩
        case round =>
         obtain⟨t,k,rfl,rfl,hk,ht,hC,hf⟩:=hrel;have e9:=hf.symm;clear hf;subst e9;have hD:=hid hC;clear hC;by_cases Hn:k<ll
         ·obtain⟨r,hr⟩:∃ r,(takes7 xm++makes7 xm)[k]? = some r:=⟨_,List.getElem?_eq_getElem (by rw[hK.out];exact Hn)⟩
          obtain⟨LB,loff,rfl,tF,tu⟩:=YI h0.out hr;have th:=hJ.out r (List.mem_of_getElem? hr);exact zz
         ·obtain rfl:ll=k:=zaK
          go_wp2_with fail
          go_roundw
          case rel=>exact⟨t,i+1,by trivial,by go_num,zaK,⟨zaK,zaK⟩,(fun j x hj hx=>by
           by_cases e:j=i
           ·subst e;rw[HX.out]at hx;cases hx
            exact fun r hr=>by
             obtain⟨z,hz⟩:=List.getElem?_of_mem hr;exact hD.out z r (by have h8:z<(takes7 xm++makes7 xm).length:=(List.getElem?_eq_some_iff.1 hz).1;rw[hK.out]at h8;exact h8) hz
           ·intro r hr;have:=Ha.out j x zaK hx r hr;omega),hF.out.trans tJ.out⟩
          case measure=>simp[intOf];omega
       all_goals
        intro vs w5 hs hk _;revert hk;refine zs1 ?_;intro hk
       ·exact jz
       ·exact kH
       ·exact yk
       iterate 2
        ·exact kH
       ·exact zp
       ·clear hk;go_wp2_with fail
        refine (Vx xm xav w5 (hZ.out.1.keep hs) hZ.out.2).mono ?_;rintro e w6 ⟨v,rfl,hv,Hi⟩;go_wp2
        exact⟨_,rfl,hv,Hi⟩
       ·have hz:=hs.size;have H3:IsNilOf 3 wr (vs 0) w5:=by exact hk.1
        have H1:=VD (show Zy .i64 w5 (vs 6) (takes7 xm) from by exact hk.2.1)
        have t7:=Hs.out;generalize vs 0=v5 at *;generalize vs 6=v7 at *;clear hk;refine Z7 (w0:=wr) rfl _ _ 22 rfl 3 (.int .i64 0) 1 8 underlying22 Tryz.info3 rfl zaJ zaJ v5 v7 (takes7 xm).length ((takes7 xm).map (Value.int .i64)) rfl rfl H3 H1 zaL zaK (fun u hu=>by obtain⟨z,_,rfl⟩:=List.mem_map.1 hu;rfl) hz ?_;intro v' w3 H2 tg;go_wp2
        exact⟨_,rfl,H2,tg⟩
       ·exact kH
       ·exact yk
       iterate 2
        ·exact kH
       ·exact zp
       ·clear hk;go_wp2_with fail
        refine (Vy xm xav w5 (hZ.out.1.keep hs) hZ.out.2).mono ?_;rintro e w6 ⟨v,rfl,hv,Hi⟩;go_wp2
        exact⟨_,rfl,hv,Hi⟩
      ·obtain rfl:il=i:=zaK
       have H4:=hid (Hr.out.trans hF.out);have HC:=hM.out.2.2;dsimp only at HC;have tM:=zH (Vh n ⟨eop,ea,eb,eto,.slice ta eto.length tc,eimm⟩) hG.out.fin;clear HC hi HN;go_wp2_with fail
       refine (KC ⟨eop,ea,eb,eto,.slice ta eto.length tc,eimm⟩ wr ⟨_,_,_,rfl⟩).mono ?_;rintro e w7 ⟨v7,rfl,hP,HH⟩;have hJ:=hid (ZaE tM.out);have tI:=hid HH;obtain⟨l,hl⟩:∃ z,needs ⟨eop,ea,eb,eto,.slice ta eto.length tc,eimm⟩=z:=⟨_,rfl⟩
       rw[hl]at hJ hP;have HL:=hid hl;obtain⟨la,lc,rfl⟩:=Zc hP;have h0:=hid hP;obtain⟨ll,hn⟩:∃ z,l.length=z:=⟨_,rfl⟩
       rw[hn]at h0 ⊢;have tT:ll≤2:=by rw[←hn];exact hJ.out.2
       have hK:=hid hn;clear hl hP hn HH;go_wp2_with fail
       go_loopw [3,12] (fun tv iv w8=>∃ (t:Int) (k:Nat),tv=.int .i64 t∧iv=.int .i64 k∧k≤ll∧(t2≤t∧t≤10000)∧(∀ (j:Nat) (r:Int),j<k→l[j]? = some r→r<t)∧w8=w7) (fun _ iv _=>ll-(intOf iv).toNat)
       case atStart=>exact⟨t2,0,rfl,rfl,Nat.zero_le _,⟨Int.le_refl _,zaK⟩,(fun j r hj=>by omega),rfl⟩
       case round =>
        obtain⟨t,k,rfl,rfl,hk,ht,hC,hf⟩:=hrel;have e9:=hf.symm;clear hf;subst e9;have hD:=hid hC;clear hC;by_cases Hn:k<ll
        ·obtain⟨r,hr⟩:∃ r,l[k]? = some r:=⟨_,List.getElem?_eq_getElem (by rw[hK.out];exact Hn)⟩
         obtain⟨LB,loff,rfl,tF,tu⟩:=YI h0.out hr;have th:=hJ.out.1 r (List.mem_of_getElem? hr);exact zz
        ·obtain rfl:ll=k:=zaK
         go_wp2_with fail
         go_roundw
         case rel =>
          have tE:Vj t ⟨phs,.slice pa pl pc,ins,.slice ia il ic,⟨eop,ea,eb,eto,.slice ta eto.length tc,eimm⟩⟩:=by
           refine⟨fun p hp=>?_,fun p hp y hy=>?_,fun x hx r hr=>?_,fun r hr=>?_⟩
           ·obtain⟨j,hj⟩:=List.getElem?_of_mem hp;have:=(hH.out j p (by have h8:j<phs.length:=(List.getElem?_eq_some_iff.1 hj).1;have:=Hu.out;omega) hj).1
            omega
           ·obtain⟨j,hj⟩:=List.getElem?_of_mem hp;have:=(hH.out j p (by have h8:j<phs.length:=(List.getElem?_eq_some_iff.1 hj).1;have:=Hu.out;omega) hj).2 y hy
            omega
           ·obtain⟨j,hj⟩:=List.getElem?_of_mem hx;have:=Ha.out j x (by have h8:j<ins.length:=(List.getElem?_eq_some_iff.1 hj).1;have:=HZ.out;omega) hj r hr
            omega
           ·have hr:r∈l:=by rw[←HL.out];exact hr
            obtain⟨j,hj⟩:=List.getElem?_of_mem hr;exact hD.out j r (by have h8:=(List.getElem?_eq_some_iff.1 hj).1;have:=hK.out;omega) hj
          exact⟨t,b+1,by trivial,by go_num,zaK,⟨zaK,zaK⟩,(fun j x hj hx=>by
           by_cases e:j=b
           ·subst e;rw[HY.out]at hx;cases hx;exact tE
           ·exact (Hb.out j x zaK hx).mono zaK),Ht.out.trans (H4.out.trans tI.out)⟩
         case measure=>simp[intOf];omega
  ·obtain rfl:n=b:=zaK
   go_wp2_with fail
   go_ret
   exact⟨t1,rfl,HE,fun x hx=>by
    obtain⟨j,hj⟩:=List.getElem?_of_mem hx;exact Hb.out j x (by have:=(List.getElem?_eq_some_iff.1 hj).1;have:=Hw.out;omega) hj,HU.out.trans Ht.out⟩
end Go.Proofs.YtimpddecdodddaaGreat
