import Derived.Test.YtimpddecdodddaaGreatSt29
namespace Go.Proofs.YtimpddecdodddaaGreat
open Go.Proofs.Tryz Go.RowKit Go.Lib
set_option linter.unusedVariables false
set_option maxHeartbeats 8000000
set_option maxRecDepth 100000
theorem zQ {P:Prop} (h:P:=by
 go_roundw
 case rel=>exact⟨j+1,_,xs++th.mkl,by omega,rfl,by go_num,hD.out,by rw[List.length_append,hc.out,hw.out];omega,fun y hy=>by
  rcases List.mem_append.1 hy with hy|hy
  ·exact hr.out y hy
  ·exact hY.out.2.1 y hy⟩
 case measure=>simp[intOf];omega):P:=h
theorem yC {P:Prop} (h:P:=by
 rintro q (rfl|hq|hq)
 ·exact .inr (.inl hg)
 ·exact .inr (.inr (.inr ⟨k,hd,.inl hq⟩))
 ·exact .inr (.inr (.inr ⟨k,hd,.inr hq⟩))):P:=h
theorem jq {P:Prop} (h:P:=by exact⟨RowIn.turn hx.1 tt (fun q hq e=>(hx.2 q hq).1 (.inl (hT q e))) fun _ _ h=>h,hc _ hx.2⟩):P:=h
theorem RowIn.imp {α:Type} {f : α→List Value} {sz:Nat} {p p':World→α→Prop} {w : World} {v : Value} {l : List α} (h:RowIn f sz p w v l) (hp:∀ x,p w x→p' w x):RowIn f sz p' w v l:=by
 rcases h with h|⟨b,off,cap,h1,h2,h3,h4,h5⟩
 ·exact .inl h
 ·exact .inr ⟨b,off,cap,h1,h2,h3,h4,fun j x hj=>⟨(h5 j x hj).1,hp x (h5 j x hj).2⟩⟩
theorem FnIn.tos {w : World} {params:Int} {bl:List Zt} {bv:Value} (h:FnIn w ⟨params,bl,bv⟩):TosIn w bv bl:=RowIn.imp (show RowIn fbcells 6 FBlkIn w bv bl from h) fun b h=>h.2.2.2
structure JC (w wT:World) (base:Nat) (cs:Array Value) (v:Value) (xs:List Int) (wr:World):Prop where
 box:HeapIs wr w.heap.size cs 109
 own:wr.ownsRow (w.heap.size+1) 3 1 v xs.length (xs.map (Value.int .i64))
 old:Since w wr
 low:Zb (fun q=>q<base) wT wr
 at_:∀ q,v.ownBlock=some q→q<base∨wT.heap.size≤q
 size:w.heap.size+1≤wr.heap.size
section
variable {w wT wr w2 w6:World} {base:Nat} {cs:Array Value} {v v':Value} {xs ys:List Int}
theorem JC.keep (h:JC w wT base cs v xs wr) (s:Since wr w2):JC w wT base cs v xs w2:=
 ⟨h.box.keep s,Zv h.own s,h.old.trans s,h.low.trans (Zb.since s),h.at_,Nat.le_trans h.size s.size⟩
theorem JC.add (h:JC w wT base cs v xs wr) (ha:w6.ownsRow (w.heap.size+1) 3 1 v' (xs++ys).length ((xs++ys).map (Value.int .i64))) (t6:Zb (fun q=>v.ownBlock=some q) wr w6) (hb:Yb wr v v'):JC w wT base cs v' (xs++ys) w6:=by
 have hv:∀ q,v.ownBlock=some q→w.heap.size+1≤q:=fun q hq=>(World.ownsRow.lt h.own q hq).1
 have hz:=t6.size;have hc:=h.low.size;refine⟨h.box.turn t6 fun e=>by have:=hv _ e;omega,ha,t6.toSince h.old fun q hq e=>by have:=hv _ e;omega,?_,fun q hq=>?_,by have:=h.size;omega⟩
 ·have h1:Zb (fun q=>q<base∨wT.heap.size≤q) wT wr:=h.low.mono fun _ _ e=>.inl e
  have h2:Zb (fun q=>q<base∨wT.heap.size≤q) wr w6:=t6.mono fun q _ e=>h.at_ q e
  refine (h1.trans h2).mono fun q hq hs=>?_
  exact kD
 ·rcases hb q hq with h1|h1
  ·exact h.at_ q h1
  ·exact .inr zaK
end
def ReachP (n:Nat) (v:Value) (w:World):Prop:=∃ ob out,v=.slice (some ⟨ob,0,none⟩) n n∧HeapIs w ob ((out:List Bool).map Value.bool).toArray 4∧out.length=n
theorem ReachP.stable (n:Nat):ZH (ReachP n):=fun v w w' ⟨ob,out,h1,h2,h3⟩ s=>⟨ob,out,h1,h2.keep s,h3⟩
theorem Zas (N:Int) (params:Int) (bl:List Zt) (bv:Value) (w:World) (h:FnIn w ⟨params,bl,bv⟩) (hn:Qh N bl) (h9:1≤bl.length∧bl.length≤9) (hp:0≤params∧params≤8∧params≤N) (block:Int) (hb:0≤block∧block<bl.length) :
  Calls prog 113 #[.agg #[.int .i64 params,bv],.int .i64 block] w (Zfh w fun l=>l.length≤500000∧∀ y∈l,0≤y∧y<N):=by
 obtain⟨ba,bc,Hf,hX⟩:=RowIn.shape (show RowIn fbcells 6 FBlkIn w bv bl from h);subst Hf;obtain⟨n,hK⟩:∃ n,bl.length=n:=⟨_,rfl⟩
 rw[hK]at hX h hb h9 ⊢;obtain⟨bk,rfl⟩:∃ bk:Nat,block=bk:=⟨block.toNat,zaK⟩
 have Hg:bk<n:=zaK
 obtain⟨Hn,Hm,Hl⟩:=hp;obtain⟨Hp,Ho⟩:=h9;have H:=hid h;have hH:=hid hK;have HF:=hid hn;clear h hK hn hX hb;have HW:=hid (XW.new w #[.int .i64 params,.slice ba n bc] 109);go_enter func113,ntmps113
 go_wp2_with fail
 obtain⟨w1,hR⟩:∃ x,x=(w.alloc (.cells #[.int .i64 params,.slice ba n bc] 109)).alloc (.cells #[] 3):=⟨_,rfl⟩
 rw[←hR]at HW ⊢;clear hR
 go_loopw [5,6] (fun av i wr=>∃ (k:Nat) (v:Value) (xs:List Int),(k:Int)≤params∧av=v∧i=.int .i64 k∧XW w #[.int .i64 params,.slice ba n bc] 109 v xs wr∧xs.length≤k∧∀ p∈xs,0≤p∧p<N) (fun _ i _=>params.toNat-(intOf i).toNat)
 case atStart=>exact⟨0,_,[],zaK,rfl,rfl,HW.out,Nat.le_refl _,fun p hp=>(by cases hp)⟩
 case round =>
  obtain⟨i,v,xs,hi,rfl,rfl,hf,hx,hC⟩:=hrel;obtain⟨xa,xc,hv⟩:=Ze hf.own;obtain⟨xl,ht⟩:∃ x,xs.length=x:=⟨_,rfl⟩
  rw[ht]at hv hx;subst hv;have HT:=hid hf;have hc:=hid ht;have hr:=hid hC;have c0:wr.cell? ⟨w.heap.size,0,none⟩=some (.int .i64 params):=hf.box.cell 0;have c1:wr.cell? ⟨w.heap.size,1,none⟩=some (.slice ba n bc):=hf.box.cell 1;have hZ:=hf.box.lt;clear hf ht hC HW;by_cases hL:(i:Int)<params
  ·go_wp2_with (refine Zl (base:=w.heap.size+1) .i64 rfl _ _ 22 rfl 3 (.int .i64 0) 8 underlying22 Tryz.info3 rfl zaJ (.slice xa xl xc) _ xs [(i:Int)] rfl rfl (Zv (by have h9:=HT.out.own;rw[hc.out]at h9 ⊢;exact h9) ((Since.refl _).alloc _)) (Ym _ _ _) (by rw[hc.out];simp;omega) (by have:=HT.out.size;simp;omega) ?_;intro v6 w6 ha hm he;obtain⟨a6,c6,hl⟩:=Ze ha;rw[show (xs++[(i:Int)]).length=xl+1 from by rw[List.length_append,hc.out];rfl]at hl;subst hl;have hD:=hid (HT.out.add ha hm);clear ha hm he)
   go_roundw
   case rel=>exact⟨i+1,_,xs++[(i:Int)],zaK,rfl,by go_num,hD.out,by rw[List.length_append,hc.out];show xl+1≤i+1;omega,fun p hp=>by
    rcases List.mem_append.1 hp with hp|hp
    ·exact hr.out p hp
    ·obtain rfl:=List.mem_singleton.1 hp;omega⟩
   case measure=>simp[intOf];omega
  ·obtain rfl:params=i:=zaK
   clear hL hi;go_wp2_with fail
   refine (Kr N _ bl (.slice ba n bc) wr (FnIn.keep H.out HT.out.old) HF.out).mono ?_;rintro e wT ⟨tv,things,rfl,hg,hu,hB,hS⟩;rw[hH.out]at hS;obtain⟨sa,sc,hT⟩:=OwnRow.shape hg;obtain⟨tn,hI⟩:∃ x,things.length=x:=⟨_,rfl⟩
   rw[hI]at hT hS;subst hT;have Hi:=hid hI;obtain⟨base,hz⟩:∃ x,x=wr.heap.size:=⟨_,rfl⟩
   rw[←hz]at hg hu;have Hh:=hid hg;have Hj:=zH (RowIn thcells 4 (WL base N bl.length) wT (.slice sa tn sc) things) (Z0 X6 hg hu);have HS:=zH (JC w wT base _ (.slice xa xl xc) xs wT) ⟨HT.out.box.keep hB,Zv HT.out.own hB,HT.out.old.trans hB,Zb.refl _ _,fun q hq=>.inl (by rw[hz];exact ZR HT.out.own hq),Nat.le_trans HT.out.size hB.size⟩;clear hg hu hB hI hz c0 c1 hZ HT;go_wp2_with fail
   go_loopw [5,8] (fun av z wr=>∃ (j:Nat) (v:Value) (xs:List Int),j≤tn∧av=v∧z=.int .i64 j∧JC w wT base #[.int .i64 i,.slice ba n bc] v xs wr∧xs.length≤8+2*j∧∀ p∈xs,0≤p∧p<N) (fun _ z _=>tn-(intOf z).toNat)
   case atStart=>exact⟨0,_,xs,Nat.zero_le _,rfl,rfl,HS.out,by rw[hc.out];omega,hr.out⟩
   case round =>
    clear HS hc hr hx;obtain⟨j,v,xs,hj,rfl,rfl,hf,hx,hC⟩:=hrel;obtain⟨xa,xc,hv⟩:=Ze hf.own;obtain⟨xl,ht⟩:∃ x,xs.length=x:=⟨_,rfl⟩
    rw[ht]at hv hx;subst hv;have hd:=hid hf;have hc:=hid ht;have hr:=hid hC;clear hf ht hC;by_cases hL:j<tn
    ·obtain⟨TB,toff,th,rfl,hN,Hb,hW,hh⟩:=RowIn.at Hj.out (by rw[Hi.out];exact hL);have h7:¬ TB<base:=by have:=(World.ownsRow.lt (show wT.ownsRow _ _ _ _ _ _ from Hh.out) TB rfl).1;omega
     have hM:=fun t' Hc=>(hd.out.low.cell (p:=⟨TB,toff+j*4+t',none⟩) hN h7).trans (hW t' Hc)
     have hO:=zH (WM base th.mkl th.mkv wr) (Zg hh.1 hd.out.low fun q hq e=>by have:=(World.ownsRow.lt (show wT.ownsRow _ _ _ _ _ _ from hh.1) q hq).1;omega)
     obtain⟨ma,mc,hE⟩:=VW hO.out;obtain⟨ml,hF⟩:∃ x,th.mkl.length=x:=⟨_,rfl⟩
     rw[hF]at hE;have Hk:ml≤2:=by rw[←hF];exact hh.2.2.2.1
     have hP:=zH (Zy .i64 wr (.slice ma ml mc) th.mkl) (by rw[←hE];exact ZB hO.out);have hY:=hid hh;have hw:=hid hF;have t0:wr.cell? ⟨TB,toff+j*4,none⟩=some (.int .i64 th.block):=hM 0 zaJ;have t2:wr.cell? ⟨TB,toff+j*4+2,none⟩=some (.slice ma ml mc):=by rw[←hE];exact hM 2 zaJ
     have h6:TB<wr.heap.size:=Nat.lt_of_lt_of_le hN hd.out.low.size;have c0:=hd.out.box.cell 0;have c1:=hd.out.box.cell 1;have He:=hd.out.box.lt;clear hM hW Hb hh hF hE hN;by_cases hG:th.block=bk
     ·have h0:(th.block != (bk:Int))=false:=by simpa using hG
      clear hG;go_wp2_with (refine Zl (base:=w.heap.size+1) .i64 rfl _ _ 22 rfl 3 (.int .i64 0) 8 underlying22 Tryz.info3 rfl zaJ (.slice xa xl xc) _ xs th.mkl rfl rfl (by have h9:=hd.out.own;rw[hc.out]at h9 ⊢;exact h9) (hP.out) (by rw[hc.out,hw.out];omega) (by have:=hd.out.size;omega) ?_;intro v6 w6 ha hm he;obtain⟨a6,c6,hl⟩:=Ze ha;rw[show (xs++th.mkl).length=xl+ml from by rw[List.length_append,hc.out,hw.out]]at hl;subst hl;have hD:=hid (hd.out.add ha hm he);clear ha hm he)
      exact zQ
     ·have h0:(th.block != (bk:Int))=true:=by simpa using hG
      clear hG;have KW:Hid (wr.cell? ⟨TB,toff+j*4,none⟩=some (.int .i64 th.block)∧wr.cell? ⟨TB,toff+j*4+2,none⟩=some (.slice ma ml mc)∧wr.cell? ⟨w.heap.size,0,none⟩=some (.int .i64 i)∧wr.cell? ⟨w.heap.size,1,none⟩=some (.slice ba n bc)∧TB<wr.heap.size∧w.heap.size<wr.heap.size):=hid ⟨t0,t2,c0,c1,h6,He⟩;go_wp2_with fail
      refine Zh 7 rfl zaC zaC zaC zaJ
       [Is (.agg #[.int .i64 i,.slice ba n bc]),Is (.slice (some ⟨TB,toff,none⟩) tn sc),Is (.int .i64 j),Is (.pointer (some ⟨TB,toff+j*4,none⟩)),Is (.pointer (some ⟨TB,toff+j*4,none⟩)),Is (.int .i64 th.block),ReachP n]
       (by repeat (first | exact trivial | refine⟨Is.stable _,?_⟩ | refine⟨ReachP.stable _,?_⟩)) ⟨?_,?_,?_,?_,?_,?_,?_,trivial⟩ ?_
      rotate_right
      ·intro vs w20 hs hk;have k0:w20.cell? ⟨TB,toff+j*4,none⟩=some (.int .i64 th.block):=(hs.cell KW.out.2.2.2.2.1).trans KW.out.1;have k2:w20.cell? ⟨TB,toff+j*4+2,none⟩=some (.slice ma ml mc):=(hs.cell KW.out.2.2.2.2.1).trans KW.out.2.1;have b0:w20.cell? ⟨w.heap.size,0,none⟩=some (.int .i64 i):=(hs.cell KW.out.2.2.2.2.2).trans KW.out.2.2.1;have b1:w20.cell? ⟨w.heap.size,1,none⟩=some (.slice ba n bc):=(hs.cell KW.out.2.2.2.2.2).trans KW.out.2.2.2.1;have l1:TB<w20.heap.size:=Nat.lt_of_lt_of_le KW.out.2.2.2.2.1 hs.size;have l2:w.heap.size<w20.heap.size:=Nat.lt_of_lt_of_le KW.out.2.2.2.2.2 hs.size;revert hk;refine zs0 ?_;intro hk
       obtain⟨ob,out,hV,hJ,hU⟩:ReachP n (vs 6) w20:=hk.2.2.2.2.2.2.1;simp only[hV];obtain⟨o,ho⟩:∃ o,out[bk]? = some o:=⟨_,List.getElem?_eq_getElem (by rw[hU];exact Hg)⟩
       have co:w20.cell? ⟨ob,bk,none⟩=some (.bool o):=by rw[hJ.cell,List.getElem?_toArray,List.getElem?_map,ho];rfl
       have ol:=hJ.lt;have hA:=hid (hd.out.keep hs);have hQ:=hid (Zy.keep hP.out hs);clear hk hs hV hJ hU ho k0 b0 b1 l2
       cases o with
       | true =>
        go_wp2
        go_roundw
        case rel=>exact⟨j+1,_,xs,zaK,rfl,by go_num,hA.out,by rw[hc.out];omega,hr.out⟩
        case measure=>simp[intOf];omega
       | false =>
        go_wp2_with (refine Zl (base:=w.heap.size+1) .i64 rfl _ _ 22 rfl 3 (.int .i64 0) 8 underlying22 Tryz.info3 rfl zaJ (.slice xa xl xc) _ xs th.mkl rfl rfl (by have h9:=hA.out.own;rw[hc.out]at h9 ⊢;exact h9) (hQ.out) (by rw[hc.out,hw.out];omega) (by have:=hA.out.size;omega) ?_;intro v6 w6 ha hm he;obtain⟨a6,c6,hl⟩:=Ze ha;rw[show (xs++th.mkl).length=xl+ml from by rw[List.length_append,hc.out,hw.out]]at hl;subst hl;have hD:=hid (hA.out.add ha hm he);clear ha hm he)
        exact zQ
      all_goals
       intro vs w20 hs hk _;have k0:w20.cell? ⟨TB,toff+j*4,none⟩=some (.int .i64 th.block):=(hs.cell KW.out.2.2.2.2.1).trans KW.out.1;have k2:w20.cell? ⟨TB,toff+j*4+2,none⟩=some (.slice ma ml mc):=(hs.cell KW.out.2.2.2.2.1).trans KW.out.2.1;have b0:w20.cell? ⟨w.heap.size,0,none⟩=some (.int .i64 i):=(hs.cell KW.out.2.2.2.2.2).trans KW.out.2.2.1;have b1:w20.cell? ⟨w.heap.size,1,none⟩=some (.slice ba n bc):=(hs.cell KW.out.2.2.2.2.2).trans KW.out.2.2.2.1;have l1:TB<w20.heap.size:=Nat.lt_of_lt_of_le KW.out.2.2.2.2.1 hs.size;have l2:w.heap.size<w20.heap.size:=Nat.lt_of_lt_of_le KW.out.2.2.2.2.2 hs.size;revert hk;refine zs1 ?_;intro hk
      iterate 6
       ·exact kH
      ·have Ha:=hid hs;clear hk hs k0 k2 b0 b1 l1 l2;go_wp2_with fail
       refine (JX _ bl (.slice ba n bc) _ (TosIn.keep (FnIn.tos H.out) (hd.out.old.trans Ha.out)) (by rw[hH.out];omega) th.block).mono ?_;rintro e w21 ⟨ob,out,rfl,h1,h2,h3,h4,h5⟩;rw[hH.out]at h4;have HR:=zH (ReachP n (.slice (some ⟨ob,0,none⟩) n n) w21) ⟨ob,out,rfl,h1,h4⟩;have h8:=hid h3;rw[hH.out];clear h1 h2 h3 h4 h5;go_wp2
       exact⟨_,rfl,HR.out,h8.out⟩
    ·obtain rfl:tn=j:=zaK
     go_wp2
     go_ret
     exact⟨_,xs,rfl,Zaz (by have h9:=hd.out.own;rw[hc.out]at h9 ⊢;exact h9) (Nat.le_succ _),hd.out.old,by rw[hc.out];omega,hr.out⟩
theorem Zds (N:Int) (params:Int) (bl:List Zt) (bv:Value) (w:World) (h:FnIn w ⟨params,bl,bv⟩) (hn:Qh N bl) (hp:0≤params∧params≤8∧params≤N) (hN:N≤8192) (h9:bl.length≤9) :
  Calls prog 103 #[.agg #[.int .i64 params,bv]] w (fun e w'=>∃ x:Int,e=.returned (.int .i64 x)∧(0≤x∧x≤N)∧Since w w'):=by
 obtain⟨n,hm⟩:∃ n,bl.length=n:=⟨_,rfl⟩
 rw[hm]at h9;obtain⟨hL,hK,hJ⟩:=hp;have H:=hid h;have hE:=hid hm;have HF:=hid hn;clear h hm hn;go_enter func103,ntmps103
 have hM:min (max params 0) 8192=params:=zaK
 go_wp2_with (refine wpList_load_row rfl _ _ rfl w.heap.size rfl 109 _ (0,0) _ (ZG _ _) underlying109 rfl zaF ?_)
 refine (Kr N params bl bv _ (FnIn.keep H.out ((Since.refl _).alloc _)) HF.out).mono ?_;rintro e wT ⟨tv,things,rfl,ha,hc,hs,hq⟩;rw[hE.out]at hq;obtain⟨sa,sc,hr⟩:=OwnRow.shape ha;obtain⟨tn,hl⟩:∃ x,things.length=x:=⟨_,rfl⟩
 rw[hl]at hr hq;subst hr;have hA:=hid hl;obtain⟨base,hi⟩:∃ x,x=(w.alloc (.cells #[.int .i64 params,bv] 109)).heap.size:=⟨_,rfl⟩
 rw[←hi]at ha hc;have hC:=zH (RowIn thcells 4 (WL base N bl.length) wT (.slice sa tn sc) things) (Z0 X6 ha hc);have HS:=hid (((Since.refl w).alloc (.cells #[.int .i64 params,bv] 109)).trans hs);clear ha hc hs hl hi;go_wp2_with fail
 go_loopw [3,5] (fun tv i wr=>∃ (t:Int) (j:Nat),tv=.int .i64 t∧i=.int .i64 j∧j≤tn∧(0≤t∧t≤N)∧wr=wT) (fun _ i _=>tn-(intOf i).toNat)
 case atStart=>exact⟨_,0,rfl,rfl,Nat.zero_le _,zaK,rfl⟩
 case round =>
  obtain⟨t,j,rfl,rfl,hj,⟨he,hd⟩,rfl⟩:=hrel;by_cases hx:j<tn
  ·obtain⟨TB,toff,th,rfl,hQ,hI,hu,hb⟩:=RowIn.at hC.out (by rw[hA.out];exact hx);have ho:=hid hb.1;obtain⟨ma,mc,hf⟩:=VW ho.out;obtain⟨ml,hg⟩:∃ x,th.mkl.length=x:=⟨_,rfl⟩
   rw[hg]at hf;have hF:ml≤2:=by rw[←hg];exact hb.2.2.2.1
   have hw:=zH (Zy .i64 wr (.slice ma ml mc) th.mkl) (by rw[←hf];exact ZB ho.out);have hD:=hid hb;have hv:=hid hg;have t2:wr.cell? ⟨TB,toff+j*4+2,none⟩=some (.slice ma ml mc):=by rw[←hf];exact hu 2 zaJ
   clear hb hu hg hf;go_wp2_with fail
   go_loopw [3,6] (fun tv i w2=>∃ (t:Int) (k:Nat),tv=.int .i64 t∧i=.int .i64 k∧k≤ml∧(0≤t∧t≤N)∧w2=wr) (fun _ i _=>ml-(intOf i).toNat)
   case atStart=>exact⟨t,0,rfl,rfl,Nat.zero_le _,⟨he,hd⟩,rfl⟩
   case round =>
    clear he hd;obtain⟨t,k,rfl,rfl,hk,⟨he,hd⟩,rfl⟩:=hrel;by_cases hz:k<ml
    ·obtain⟨_,ht⟩:=Zr hw.out;obtain⟨B,off,rfl,hB,hh⟩:=ht (by intro e;have:=hv.out;rw[e]at this;simp at this;omega);obtain⟨y,hy⟩:∃ y,th.mkl[k]? = some y:=⟨_,List.getElem?_eq_getElem (by rw[hv.out];exact hz)⟩
     have hP:=hh k y hy;have hG:=hD.out.2.1 y (List.mem_of_getElem? hy);have hH:y<8192:=zaK
     clear hh ht hy;by_cases hO:t≤y
     ·go_wp2
      go_roundw
      case rel=>exact⟨y+1,k+1,by trivial,by go_num,zaK,⟨zaK,zaK⟩,by trivial⟩
      case measure=>simp[intOf];omega
     ·go_wp2
      go_roundw
      case rel=>exact⟨t,k+1,by trivial,by go_num,zaK,⟨zaK,zaK⟩,by trivial⟩
      case measure=>simp[intOf];omega
    ·obtain rfl:ml=k:=zaK
     go_wp2
     go_roundw
     case rel=>exact⟨t,j+1,by trivial,by go_num,zaK,⟨zaK,zaK⟩,by trivial⟩
     case measure=>simp[intOf];omega
  ·obtain rfl:tn=j:=zaK
   go_wp2
   go_ret
   exact⟨t,rfl,⟨he,hd⟩,HS.out⟩
def mk0:Zm:=⟨0,0,[],0,[],.slice none 0 0⟩
theorem Qp {mb:Nat} {q : Nat} (h:Own mb (.slice none 0 0) mk0 q):q=mb:=by
 rcases h with h|h|h|⟨b,hb,_⟩
 ·exact h
 ·cases h
 ·cases h
 ·cases hb
theorem Ze4 {C : Nat→Prop} {w : World} {sv:Value} {l : List Int} {cs:Array Value} {T : TypeId} (hs:Zd w sv l) (ha:∀ q,sv.ownBlock=some q→q<w.heap.size) (hC:∀ q,C q→q<w.heap.size∧sv.ownBlock≠some q)
  (hm:MkAt (w.alloc (.cells cs T)) w.heap.size sv 0 [.int .i64 0,.slice none 0 0,.int .i64 0,.slice none 0 0]):MkOk C w.heap.size (.slice none 0 0) sv l mk0 (w.alloc (.cells cs T)):=by
 have hc:(w.alloc (.cells cs T)).heap.size=w.heap.size+1:=by simp
 refine⟨hm,⟨hs.keep ((Since.refl _).alloc _),fun q hq=>⟨?_,by have:=ha q hq;omega⟩⟩,W5 _ _ _ _,.inl ⟨rfl,rfl⟩,fun b hb=>(by cases hb),fun i j b c hi=>(by cases hi),zaJ,⟨zaJ,fun v hv=>(by cases hv),fun b hb=>(by cases hb)⟩,fun q hq=>⟨by have:=(hC q hq).1;omega,fun ho=>by have:=Qp ho;have:=(hC q hq).1;omega⟩⟩
 rintro (h|h)
 ·have:=Qp h;have:=ha q hq;omega
 ·exact (hC q h).2 hq
section
variable {C : Nat→Prop} {mb:Nat} {bv sv:Value} {l : List Int} {m : Zm} {w w':World}
theorem MkOk.setHead {p next':Int} (h:MkOk C mb bv sv l m w) (hm:MkAt w' mb sv m.at_ [.int .i64 p,bv,.int .i64 next',m.livev]) (t:Zb (fun q=>q=mb) w w') (hn:m.next≤next') (hp:0≤p∧p≤4∧p≤next'):MkOk C mb bv sv l { m with params:=p,next:=next' } w':=by
 have hz:=t.size;have hS:∀ q,Own mb bv { m with params:=p,next:=next' } q→Own mb bv m q∨w.heap.size≤q:=fun q hq=>.inl hq
 refine⟨hm,⟨h.src.1.turn t fun q hq e=>(h.src.2 q hq).1 (.inl (.inl e)),h.src.2.mono (Ys hS) hz⟩,Zg h.live t fun q hq e=>h.mb_live (e ▸ hq),?_,fun b hb=>(h.each b hb).turn t (fun q hq=>.inl (.inl hq)) (Ys hS) (fun q hq e=>h.mb_phis hb (e ▸ hq)) (fun q hq e=>h.mb_ins hb (e ▸ hq)),h.apart,h.few,?_,fun q hq=>⟨Nat.lt_of_lt_of_le (h.aside q hq).1 hz,(h.aside q hq).2⟩⟩
 ·exact yO
 ·exact⟨hp,fun v hv=>by have:=h.good.live v hv;dsimp only;omega,fun b hb x hx=>(h.good.ins b hb x hx).mono hn⟩
def fb0:Zt:=⟨[],.slice none 0 0,[],.slice none 0 0,⟨0,[],.slice none 0 0,[],.slice none 0 0,0⟩⟩
theorem Vi.zero (S:Nat→Prop) (w:World):Vi S w fb0:=
 ⟨OwnRow.nil _ _ _ _ _,OwnRow.nil _ _ _ _ _,fun x hx=>zaI,fun x hx=>zaI,⟨.inl ⟨none,rfl,rfl⟩,.inl ⟨none,rfl,rfl⟩⟩,Stays.nil _ _,Stays.nil _ _⟩
theorem MkOk.setBlocks {n bb:Nat} (h:MkOk C mb (.slice none 0 0) sv l m w) (hf:m.bks=[]) (hn:n≤512) (hd:w.heap.size≤bb) (hc:HeapIs w' bb ((List.replicate n fb0).flatMap fbcells).toArray 177)
  (hm:MkAt w' mb sv m.at_ [.int .i64 m.params,.slice (some ⟨bb,0,none⟩) n n,.int .i64 m.next,m.livev]) (t:Zb (fun q=>q=mb) w w'):MkOk C mb (.slice (some ⟨bb,0,none⟩) n n) sv l { m with bks:=List.replicate n fb0 } w':=by
 have hz:=t.size;have ha:∀ b∈List.replicate n fb0,b=fb0:=fun b hb=>(List.mem_replicate.1 hb).2
 have hS:∀ q,Own mb (.slice (some ⟨bb,0,none⟩) n n) { m with bks:=List.replicate n fb0 } q→Own mb (.slice none 0 0) m q∨w.heap.size≤q:=by
  rintro q (hq|hq|hq|⟨b,hb,hq⟩)
  ·exact .inl (.inl hq)
  ·cases hq;exact .inr hd
  ·exact .inl (.inr (.inr (.inl hq)))
  ·rw[ha b hb]at hq;rcases hq with hq|hq<;>cases hq
 have he:∀ q,ZE C mb (.slice (some ⟨bb,0,none⟩) n n) { m with bks:=List.replicate n fb0 } q→ZE C mb (.slice none 0 0) m q∨w.heap.size≤q:=by
  rintro q (hq|hq)
  ·rcases hS q hq with h1|h1
   ·exact .inl (.inl h1)
   ·exact .inr h1
  ·exact .inl (.inr hq)
 refine⟨hm,⟨h.src.1.turn t fun q hq e=>(h.src.2 q hq).1 (.inl (.inl e)),h.src.2.mono he hz⟩,Zg h.live t fun q hq e=>h.mb_live (e ▸ hq),.inr ⟨bb,by simp,hc⟩,fun b hb=>by rw[ha b hb];exact Vi.zero _ _,fun i j b c hi hj hg=>?_,by simpa using hn,⟨h.good.params,h.good.live,fun b hb x hx=>by rw[ha b hb]at hx;cases hx⟩,fun q hq=>⟨Nat.lt_of_lt_of_le (h.aside q hq).1 hz,fun ho=>?_⟩⟩
 ·rw[ha b (List.mem_of_getElem? hi)];exact⟨fun q hq=>(by cases hq),fun q hq=>(by cases hq)⟩
 ·exact jE
structure MvS (mb:Nat) (bv:Value) (w:World) (m:Zm) (bv':Value) (w':World) (m':Zm):Prop where
 turn:Zb (Own mb bv m) w w'
 new:∀ q,Own mb bv' m' q→Own mb bv m q∨w.heap.size≤q
theorem MvS.refl (mb:Nat) (bv:Value) (w:World) (m:Zm):MvS mb bv w m bv w m:=⟨Zb.refl _ _,fun _ h=>.inl h⟩
theorem MvS.trans {bv' bv'':Value} {m' m'':Zm} {w'':World} (h:MvS mb bv w m bv' w' m') (k:MvS mb bv' w' m' bv'' w'' m''):MvS mb bv w m bv'' w'' m'':=by
 have hz:=h.turn.size;have h1:Zb (fun q=>Own mb bv m q∨w.heap.size≤q) w w':=h.turn.mono fun _ _ h=>.inl h
 have h2:Zb (fun q=>Own mb bv m q∨w.heap.size≤q) w' w'':=k.turn.mono fun q _ hq=>h.new q hq
 refine⟨(h1.trans h2).mono fun q hq hs=>?_,fun q hq=>?_⟩
 ·exact kD
 ·exact jX
theorem Mv.s {m':Zm} {a n i:Nat} (h:Mv mb bv w m w' m' a n i):MvS mb bv w m bv w' m':=⟨h.turn,h.new⟩
theorem MkOk.addPhi {b bb:Nat} {k : Zt} (h:MkOk C mb bv sv l m w) {x : YW} {v : Value} (hb:m.bks[b]? = some k) (hg:bv.ownBlock=some bb) (he:OwnRow fpcells 2 138 0 w' v (k.phis++[x])) (t:Zb (fun q=>k.phv.ownBlock=some q) w w') (hf:Yb w k.phv v) (hx:XG w x.inv x.ins∧Stays (ZE C mb bv m) w x.inv) :
  MkOk C mb bv sv l { m with bks:=m.bks.set b { k with phis:=k.phis++[x],phv:=v } } (w'.setCell ⟨bb,b*6,none⟩ v)∧MvS mb bv w m bv (w'.setCell ⟨bb,b*6,none⟩ v) { m with bks:=m.bks.set b { k with phis:=k.phis++[x],phv:=v } }:=by
 have hd:=List.mem_of_getElem? hb;have ha:=h.each k hd;have hB:=h.bbAt hg;have n1:Yb w k.inv k.inv:=fun q hq=>.inl hq
 have hS:=W4 (mb:=mb) (bv:=bv) (k':={ k with phis:=k.phis++[x],phv:=v }) hb n1 hf;have hi:¬ k.phv.ownBlock=some bb:=Zn ha.phis hB zaJ;have hh:HeapIs w' bb (m.bks.flatMap fbcells).toArray 177:=hB.turn t hi;have tc:Zb (fun q=>q=bb) w' (w'.setCell ⟨bb,b*6,none⟩ v):=(Zb.refl (fun q=>q=bb) w').setCell (p:=⟨bb,b*6,none⟩) rfl _;have tt:Zb (Bt bb k) w (w'.setCell ⟨bb,b*6,none⟩ v):=(t.mono fun q _ e=>.inr (.inr e)).trans (tc.mono fun q _ e=>.inl e)
 have hT:∀ q,Bt bb k q→Own mb bv m q:=by
  exact yC
 have t1:Zb (fun q=>q=bb∨k.phv.ownBlock=some q) w (w'.setCell ⟨bb,b*6,none⟩ v):=(t.mono fun q _ e=>.inr e).trans (tc.mono fun q _ e=>.inl e);have hz:=tt.size;have hc:∀ y:Value,Stays (ZE C mb bv m) w y→Stays (ZE C mb bv { m with bks:=m.bks.set b { k with phis:=k.phis++[x],phv:=v } }) (w'.setCell ⟨bb,b*6,none⟩ v) y:=fun y hy=>hy.mono (Ys hS) hz
 refine⟨h.upd hb hg tt ?_ ⟨?_,?_,fun y hy=>?_,fun y hy=>?_,?_⟩ n1 hf fun y hy=>h.good.ins k hd y hy,⟨tt.mono fun q _ e=>hT q e,hS⟩⟩
 ·have h1:=hh.set (b*6) v;rw[List.setIfInBounds_toArray]at h1;have h2:=Xn fbcells 6 ZZ 0 v k { k with phis:=k.phis++[x],phv:=v } zaJ rfl _ _ hb;rw[Nat.add_zero]at h2;rw[h2]at h1;exact h1
 ·exact Zg he tc fun q hq e=>Zn he hh zaJ (e ▸ hq)
 ·refine Zg ha.ins t1 ?_;rintro q hq (rfl|e)
  ·exact Zn ha.ins hB zaJ hq
  ·exact Xr ha.ins ha.phis zaJ q hq e
 ·rcases List.mem_append.1 hy with hy|hy
  ·exact yP
  ·obtain rfl:=List.mem_singleton.1 hy;exact jq
 ·exact jn
 ·exact qy
theorem MkOk.putLive (h:MkOk C mb bv sv l m w) {ys:List Int} {v : Value} (ha:w'.ownsRow 0 3 1 v ys.length (ys.map (Value.int .i64))) (t:Zb (fun q=>m.livev.ownBlock=some q) w w') (hd:Yb w m.livev v) (hg:∀ y∈ys,0≤y∧y<m.next) :
  MkOk C mb bv sv l { m with live:=ys,livev:=v } (w'.setCell ⟨mb,5,none⟩ v)∧(∀ q,Own mb bv { m with live:=ys,livev:=v } q→Own mb bv m q∨w.heap.size≤q)∧Zb (Own mb bv m) w (w'.setCell ⟨mb,5,none⟩ v):=by
 have hS:∀ q,Own mb bv { m with live:=ys,livev:=v } q→Own mb bv m q∨w.heap.size≤q:=by
  exact qu
 have tc:Zb (fun q=>q=mb) w' (w'.setCell ⟨mb,5,none⟩ v):=(Zb.refl (fun q=>q=mb) w').setCell (p:=⟨mb,5,none⟩) rfl _;have tt:Zb (fun q=>q=mb∨m.livev.ownBlock=some q) w (w'.setCell ⟨mb,5,none⟩ v):=(t.mono fun q _ e=>.inr e).trans (tc.mono fun q _ e=>.inl e);have hT:∀ q,(q=mb∨m.livev.ownBlock=some q)→Own mb bv m q:=by
  rintro q (hq|hq)
  ·exact .inl hq
  ·exact .inr (.inr (.inl hq))
 have hz:=tt.size;have hb:HeapIs w' mb _ _:=HeapIs.turn (show HeapIs w mb _ _ from h.made) t h.mb_live;refine⟨⟨?_,⟨h.src.1.turn tt fun q hq e=>(h.src.2 q hq).1 (.inl (hT q e)),h.src.2.mono (Ys hS) hz⟩,Zg ha tc fun q hq e=>Zn ha hb zaJ (e ▸ hq),?_,fun c hc=>(h.each c hc).turn tt (fun q e=>.inl (hT q e)) (Ys hS) ?_ ?_,h.apart,h.few,⟨h.good.params,?_,h.good.ins⟩,fun q hq=>⟨Nat.lt_of_lt_of_le (h.aside q hq).1 hz,fun e=>?_⟩⟩,hS,tt.mono fun q _ e=>hT q e⟩
 ·have h1:=hb.set 5 v;simpa [MkAt]using h1
 ·exact qC
 ·exact jh
 ·exact jl
 ·intro y hy;exact hg y hy
 ·exact jF
theorem MkOk.setIn {b bb i pb pcap:Nat} {k : Zt} {p : YW} (h:MkOk C mb bv sv l m w) {ins:List (Int × Int)} {v : Value} (hb:m.bks[b]? = some k) (hg:bv.ownBlock=some bb) (he:k.phv=.slice (some ⟨pb,0,none⟩) k.phis.length pcap) (hi:k.phis[i]? = some p) (hx:XG w v ins∧Stays (ZE C mb bv m) w v) :
  MkOk C mb bv sv l { m with bks:=m.bks.set b { k with phis:=k.phis.set i { p with ins:=ins,inv:=v } } } (w.setCell ⟨pb,i*2+1,none⟩ v)∧MvS mb bv w m bv (w.setCell ⟨pb,i*2+1,none⟩ v) { m with bks:=m.bks.set b { k with phis:=k.phis.set i { p with ins:=ins,inv:=v } } }:=by
 have hd:=List.mem_of_getElem? hb;have ha:=h.each k hd;have hB:=h.bbAt hg;have n1:Yb w k.inv k.inv:=fun q hq=>.inl hq
 have n2:Yb w k.phv k.phv:=fun q hq=>.inl hq
 have hS:=W4 (mb:=mb) (bv:=bv) (k':={ k with phis:=k.phis.set i { p with ins:=ins,inv:=v } }) hb n1 n2;have hf:k.phv.ownBlock=some pb:=by rw[he];rfl
 have tc:Zb (fun q=>q=pb) w (w.setCell ⟨pb,i*2+1,none⟩ v):=(Zb.refl (fun q=>q=pb) w).setCell (p:=⟨pb,i*2+1,none⟩) rfl _;have tt:Zb (Bt bb k) w (w.setCell ⟨pb,i*2+1,none⟩ v):=tc.mono fun q _ e=>.inr (.inr (e ▸ hf))
 have hT:∀ q,Bt bb k q→Own mb bv m q:=by
  exact yC
 have hz:=tt.size;have hc:∀ y:Value,Stays (ZE C mb bv m) w y→Stays (ZE C mb bv { m with bks:=m.bks.set b { k with phis:=k.phis.set i { p with ins:=ins,inv:=v } } }) (w.setCell ⟨pb,i*2+1,none⟩ v) y:=fun y hy=>hy.mono (Ys hS) hz
 have hh:¬ bb=pb:=fun e=>Zn ha.phis hB zaJ (e ▸ hf)
 refine⟨h.upd hb hg tt ?_ ⟨?_,?_,fun y hy=>?_,fun y hy=>?_,?_⟩ n1 n2 fun y hy=>h.good.ins k hd y hy,⟨tt.mono fun q _ e=>hT q e,hS⟩⟩
 ·have h1:=hB.turn tc hh;have h2:=Xn fbcells 6 ZZ 0 k.phv k { k with phis:=k.phis.set i { p with ins:=ins,inv:=v } } zaJ rfl _ _ hb;have h3:(m.bks.flatMap fbcells)[b*6+0]? = some k.phv:=by rw[Wk fbcells 6 ZZ m.bks b 0 k hb zaJ];rfl
  rw[←h2];have h4:(m.bks.flatMap fbcells).set (b*6+0) k.phv=m.bks.flatMap fbcells:=by
   apply List.ext_getElem?
   intro j;by_cases hj:b*6+0=j
   ·subst hj;rw[List.getElem?_set_self (List.getElem?_eq_some_iff.1 h3).1,h3]
   ·rw[List.getElem?_set_ne hj]
  rw[h4];exact h1
 ·have h1:w.ownsRow 0 138 2 (.slice (some ⟨pb,0,none⟩) k.phis.length pcap) k.phis.length (k.phis.flatMap fpcells):=by rw[←he];exact ha.phis
  have h2:=ZV h1 (i*2+1) v;rw[Xn fpcells 2 Xm 1 v p { p with ins:=ins,inv:=v } zaJ rfl _ _ hi]at h2;unfold OwnRow;rw[List.length_set];dsimp only;rw[he];exact h2
 ·exact Zg ha.ins tc fun q hq e=>Xr ha.ins ha.phis zaJ q hq (e ▸ hf)
 ·rcases Yk hy with rfl|⟨j,_,hj⟩
  ·exact jq
  ·obtain⟨h3,h4⟩:=ha.phi y (List.mem_of_getElem? hj);exact⟨RowIn.turn h3 tt (fun q hq e=>(h4 q hq).1 (.inl (hT q e))) fun _ _ h=>h,hc _ h4⟩
 ·exact jn
 ·exact qy
theorem MkOk.setTo {b bb:Nat} {k : Zt} (h:MkOk C mb bv sv l m w) (hb:m.bks[b]? = some k) (hf:bv.ownBlock=some bb) (tv:Value) (tl:List Int) (ht:Zd w tv tl∧Stays (ZE C mb bv m) w tv) :
  MkOk C mb bv sv l { m with bks:=m.bks.set b { k with term:={ k.term with «to»:=tl,tov:=tv } } } (w.setCell ⟨bb,b*6+4,none⟩ tv)∧MvS mb bv w m bv (w.setCell ⟨bb,b*6+4,none⟩ tv) { m with bks:=m.bks.set b { k with term:={ k.term with «to»:=tl,tov:=tv } } }:=by
 have hg:=List.mem_of_getElem? hb;have ha:=h.each k hg;have hB:=h.bbAt hf;have n1:Yb w k.inv k.inv:=fun q hq=>.inl hq
 have n2:Yb w k.phv k.phv:=fun q hq=>.inl hq
 have hS:=W4 (mb:=mb) (bv:=bv) (k':={ k with term:={ k.term with «to»:=tl,tov:=tv } }) hb n1 n2;have tc:Zb (fun q=>q=bb) w (w.setCell ⟨bb,b*6+4,none⟩ tv):=(Zb.refl (fun q=>q=bb) w).setCell (p:=⟨bb,b*6+4,none⟩) rfl _;have he:Own mb bv m bb:=.inr (.inl hf);have hd:∀ {y : Value},Stays (ZE C mb bv m) w y→∀ q,y.ownBlock=some q→¬ q=bb:=fun hy q hq e=>(hy q hq).1 (.inl (e ▸ he))
 have hc:∀ {y : Value},Stays (ZE C mb bv m) w y→Stays (ZE C mb bv { m with bks:=m.bks.set b { k with term:={ k.term with «to»:=tl,tov:=tv } } }) (w.setCell ⟨bb,b*6+4,none⟩ tv) y:=fun hy=>hy.mono (Ys hS) tc.size
 refine⟨h.upd hb hf (tc.mono fun q _ e=>.inl e) ?_ ⟨?_,?_,fun x hx=>?_,fun x hx=>?_,⟨ha.term.1.1.turn tc (hd ha.term.2.1),ht.1.turn tc (hd ht.2)⟩,hc ha.term.2.1,hc ht.2⟩ n1 n2 fun x hx=>h.good.ins k hg x hx,tc.mono fun q _ e=>e ▸ he,hS⟩
 ·have h1:=hB.set (b*6+4) tv;rw[List.setIfInBounds_toArray,Xn fbcells 6 ZZ 4 tv k { k with term:={ k.term with «to»:=tl,tov:=tv } } zaJ rfl _ _ hb]at h1;exact h1
 ·exact Zg ha.phis tc fun q hq e=>Zn ha.phis hB zaJ (e ▸ hq)
 ·exact Zg ha.ins tc fun q hq e=>Zn ha.ins hB zaJ (e ▸ hq)
 ·exact jA
 ·obtain⟨h3,h4⟩:=ha.arg x hx;exact⟨h3.turn tc (hd h4),hc h4⟩
end
structure Qc (S:Nat→Prop) (w:World) (tb:Nat) (rows:List (Value × List Int)):Prop where
 box:HeapIs w tb (rows.map (·.1)).toArray 22
 tb:¬ S tb
 row:∀ r∈rows,Zd w r.1 r.2∧Stays S w r.1
theorem Qc.turn {S S' T:Nat→Prop} {w w':World} {tb:Nat} {rows:List (Value × List Int)} (h:Qc S w tb rows) (t:Zb T w w') (hT:∀ q,q<w.heap.size→T q→S q) (hS:∀ q,S' q→S q∨w.heap.size≤q):Qc S' w' tb rows:=by
 have t:=t.mono hT;refine⟨h.box.turn t h.tb,fun e=>?_,fun r hr=>⟨(h.row r hr).1.turn t fun q hq e=>((h.row r hr).2 q hq).1 e,(h.row r hr).2.mono hS t.size⟩⟩
 rcases hS _ e with h1|h1
 ·exact h.tb h1
 ·have:=h.box.lt;omega
theorem Kh {mb q:Nat} {m : Zm} (h1:m.livev=.slice none 0 0) (h2:m.bks=[]) (h:Own mb (.slice none 0 0) m q):q=mb:=by
 rcases h with h|h|h|⟨b,hb,_⟩
 ·exact h
 ·cases h
 ·rw[h1]at h;cases h
 ·rw[h2]at hb;cases hb
structure Bx where
 q:Nat
 cs:Array Value
 ty:TypeId
def CE (ex:List Bx) (q:Nat):Prop:=∃ x∈ex,x.q=q
structure MSt (w0:World) (ex:List Bx) (mb bb tb:Nat) (sv:Value) (l:List Int) (n:Nat) (rows:List (Value × List Int)) (m:Zm) (w:World):Prop where
 ok:MkOk (CE ex) mb (.slice (some ⟨bb,0,none⟩) n n) sv l m w
 boxes:∀ x∈ex,HeapIs w x.q x.cs x.ty∧w0.heap.size≤x.q
 tgt:Qc (ZE (CE ex) mb (.slice (some ⟨bb,0,none⟩) n n) m) w tb rows
 old:Since w0 w
 low:∀ q,Own mb (.slice (some ⟨bb,0,none⟩) n n) m q→w0.heap.size≤q
 len:m.bks.length=n
 rlen:rows.length=n
 inr:∀ r∈rows,∀ x∈r.2,1≤x∧x<(n:Int)
 few:∀ r∈rows,r.2.length≤26
section
variable {w0 w w':World} {ex ex':List Bx} {mb bb tb:Nat} {sv:Value} {l : List Int} {n : Nat} {rows:List (Value × List Int)} {m m':Zm}
theorem MSt.ceLow (h:MSt w0 ex mb bb tb sv l n rows m w) {q : Nat} (hq:CE ex q):w0.heap.size≤q:=by
 obtain⟨x,hx,rfl⟩:=hq;exact (h.boxes x hx).2
theorem MSt.step (h:MSt w0 ex mb bb tb sv l n rows m w) (ok:MkOk (CE ex) mb (.slice (some ⟨bb,0,none⟩) n n) sv l m' w') (mv:MvS mb (.slice (some ⟨bb,0,none⟩) n n) w m (.slice (some ⟨bb,0,none⟩) n n) w' m') (ha:m'.bks.length=m.bks.length):MSt w0 ex mb bb tb sv l n rows m' w':=by
 refine⟨ok,fun x hx=>⟨(h.boxes x hx).1.turn mv.turn fun e=>(h.ok.aside x.q ⟨x,hx,rfl⟩).2 e,(h.boxes x hx).2⟩,h.tgt.turn mv.turn (fun q _ e=>.inl e) (Ys mv.new),mv.turn.toSince h.old fun k hk e=>by have:=h.low k e;omega,fun q hq=>?_,ha.trans h.len,h.rlen,h.inr,h.few⟩
 rcases mv.new q hq with h1|h1
 ·exact h.low q h1
 ·have:=h.old.size;omega
def Yn (rows:List (Value × List Int)) (tn:Nat) (bks:List Zt):Prop:=∀ (j:Nat) (k:Zt) (r:Value × List Int),j<tn→bks[j]? = some k→rows[j]? = some r→k.term.to=r.2
theorem Yn.map {tn:Nat} {bks bks':List Zt} (h:Yn rows tn bks) (hs:bks'.map skel=bks.map skel):Yn rows tn bks':=fun j k r hj hk hr=>by
 have h1:=congrArg (fun x=>x[j]?) hs
 simp only[List.getElem?_map,hk,Option.map_some]at h1
 obtain⟨k2,h2,h3⟩:=Option.map_eq_some_iff.1 h1.symm
 rw[←show k2.term=k.term from congrArg (fun x=>x.2.2) h3]
 exact h j k2 r hj h2 hr
theorem Yn.set {tn b:Nat} {bks:List Zt} {k':Zt} (h:Yn rows tn bks) (hk:∀ r,rows[b]? = some r→k'.term.to=r.2):Yn rows tn (bks.set b k'):=fun j k r hj ha hr=>by
 rcases ZJ ha with ⟨rfl,rfl⟩|⟨_,h2⟩
 ·exact hk r hr
 ·exact h j k r hj h2 hr
theorem Yn.next {b : Nat} {bks:List Zt} {k':Zt} (h:Yn rows b bks) (hk:∀ r,rows[b]? = some r→k'.term.to=r.2):Yn rows (b+1) (bks.set b k'):=fun j k r hj ha hr=>by
 rcases ZJ ha with ⟨rfl,rfl⟩|⟨hb,h2⟩
 ·exact hk r hr
 ·exact h j k r zaK h2 hr
theorem MSt.mv {a nn i:Nat} (h:MSt w0 ex mb bb tb sv l n rows m w) (ok:MkOk (CE ex) mb (.slice (some ⟨bb,0,none⟩) n n) sv l m' w') (mv:Mv mb (.slice (some ⟨bb,0,none⟩) n n) w m w' m' a nn i):MSt w0 ex mb bb tb sv l n rows m' w':=
 h.step ok mv.s mv.len
theorem MSt.beside {T : Nat→Prop} (h:MSt w0 ex mb bb tb sv l n rows m w) (t:Zb T w w') (hT:∀ q,q<w.heap.size→T q→CE ex q) (ha:∀ x∈ex',HeapIs w' x.q x.cs x.ty∧(CE ex x.q∨w.heap.size≤x.q)):MSt w0 ex' mb bb tb sv l n rows m w':=by
 have hC:∀ q,CE ex' q→(CE ex q∨w.heap.size≤q)∧q<w'.heap.size:=by
  rintro q ⟨x,hx,rfl⟩;exact⟨(ha x hx).2,(ha x hx).1.lt⟩
 refine⟨h.ok.swapC t hT hC,fun x hx=>⟨(ha x hx).1,?_⟩,h.tgt.turn t (fun q hq e=>.inr (hT q hq e)) ?_,(t.mono hT).toSince h.old fun k hk e=>by have:=h.ceLow e;omega,h.low,h.len,h.rlen,h.inr,h.few⟩
 ·rcases (ha x hx).2 with h1|h1
  ·exact h.ceLow h1
  ·have:=h.old.size;omega
 ·exact y6
theorem MSt.keep (h:MSt w0 ex mb bb tb sv l n rows m w) (s:Since w w'):MSt w0 ex mb bb tb sv l n rows m w':=
 h.beside (T:=fun _=>False) (Zb.since s) (fun q _ e=>e.elim) fun x hx=>⟨(h.boxes x hx).1.keep s,.inl ⟨x,hx,rfl⟩⟩
theorem MSt.box (h:MSt w0 ex mb bb tb sv l n rows m w):HeapIs w mb #[sv,.int .i64 m.at_,.int .i64 m.params,.slice (some ⟨bb,0,none⟩) n n,.int .i64 m.next,m.livev] 111:=h.ok.made
theorem MSt.blkAt (h:MSt w0 ex mb bb tb sv l n rows m w):HeapIs w bb (m.bks.flatMap fbcells).toArray 177:=h.ok.bbAt rfl
theorem MSt.at (h:MSt w0 ex mb bb tb sv l n rows m w) {b : Nat} (hb:b<n):∃ k,m.bks[b]? = some k:=⟨_,List.getElem?_eq_getElem (by rw[h.len];exact hb)⟩
theorem MSt.cell (h:MSt w0 ex mb bb tb sv l n rows m w) {b : Nat} {k : Zt} (hk:m.bks[b]? = some k) {t : Nat} (ht:t<6):w.cell? ⟨bb,b*6+t,none⟩=(fbcells k)[t]?:=by
 rw[h.blkAt.cell,List.getElem?_toArray,Wk fbcells 6 ZZ _ _ _ _ hk ht]
theorem MSt.row (h:MSt w0 ex mb bb tb sv l n rows m w) {b : Nat} (hb:b<n):∃ r,rows[b]? = some r∧r∈rows∧w.cell? ⟨tb,b,none⟩=some r.1:=by
 obtain⟨r,hr⟩:∃ r,rows[b]? = some r:=⟨_,List.getElem?_eq_getElem (by rw[h.rlen];exact hb)⟩
 refine⟨_,hr,List.mem_of_getElem? hr,?_⟩;rw[h.tgt.box.cell,List.getElem?_toArray,List.getElem?_map,hr];rfl
theorem MSt.fn (h:MSt w0 ex mb bb tb sv l n rows m w):FnIn w ⟨m.params,m.bks,.slice (some ⟨bb,0,none⟩) n n⟩:=by
 refine .inr ⟨bb,0,n,by rw[h.len],by rw[h.len];exact Nat.le_refl _,?_,h.blkAt.lt,fun j x hj=>⟨fun t ht=>?_,?_⟩⟩
 ·have:=h.ok.few;rw[h.len]at this;unfold maxLen;omega
 ·rw[Nat.zero_add];exact h.cell hj ht
 ·have hx:=h.ok.each x (List.mem_of_getElem? hj);exact⟨Z0 Xm hx.phis fun p hp=>(hx.phi p hp).1,Z0 VC hx.ins fun p hp=>(hx.arg p hp).1,hx.term.1⟩
end
end Go.Proofs.YtimpddecdodddaaGreat
