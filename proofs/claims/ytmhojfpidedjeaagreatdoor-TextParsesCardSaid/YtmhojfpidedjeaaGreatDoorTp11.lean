import Derived.Test.YtmhojfpidedjeaaGreatDoorTp10
namespace Go.Proofs.YtmhojfpidedjeaaGreatDoor
open Go.RowKit Go.Lib
set_option linter.unusedVariables false
set_option maxHeartbeats 8000000
set_option maxRecDepth 100000
def PhiQ (w0:World) (pb:Nat) (params pl:Int) (bv:Value) (bl:List FBlk) (l:List ByteArray) (w:World) (x:Ending) (w':World):Prop:=
 x=.returned (.tuple #[])∧∃ e' bl',RPa w0 pb params pl e' bv bl' w'∧Turn (PaOwn pb bv bl) w w'∧JI (phiSt ⟨params,bl.map FBlk.d,pl⟩ l) e' params bl'
section
variable {w0:World} {pb:Nat} {params pl:Int} {bv:Value} {bl:List FBlk}
theorem Ze1 (w:World) (h:RPa w0 pb params pl 0 bv bl w) (a:Option Addr) (c:Nat):Calls Tryz.prog 91 #[.pointer (some ⟨pb,0,none⟩),.slice a 0 c] w (PhiQ w0 pb params pl bv bl [] w):=by
 have H:=hid h;clear h;go_enter Tryz.func91,Tryz.ntmps91
 go_wp2_with fail
 refine (ZL w H.out _ 70).mono ?_;rintro e1 w1 ⟨rfl,hp,ht⟩;have HP:=hid hp;have HT:=hid ht;have c3:w1.cell? ⟨pb,3,none⟩=some (.int .i64 70):=hp.cell 3;have hl:=hp.box.lt;clear hp ht;go_wp2_with fail
 go_loopw [4] (fun io wr=>io=.int .i64 1∧wr=w1) (fun _ _=>0)
 case atStart=>exact⟨rfl,rfl⟩
 case round =>
  obtain⟨rfl,rfl⟩:=hrel;go_wp2
  go_end0
  exact⟨rfl,70,bl,HP.out,HT.out.mono (fun q _ hq=>.inl hq),rfl,by decide⟩
theorem Zd2 (w:World) (h:RPa w0 pb params pl 0 bv bl w) (v:Value) (d:ByteArray) (r:List ByteArray) (hl:StrsIn w v (d::r)) (hY:Stays (PaOwn pb bv bl) w v) (hn:r.length≤400000) (b:FBlk) (hb:bl[bl.length-1]? = some b) (Hc:bl.length≤1000000) (Hb:b.phis.length≤1000000):Calls Tryz.prog 91 #[.pointer (some ⟨pb,0,none⟩),v] w (PhiQ w0 pb params pl bv bl (d::r) w):=by
 obtain⟨a,c,e1,_⟩:=RowIn.shape hl;obtain⟨n,h5⟩:∃ n,r.length+1=n:=⟨_,rfl⟩
 rw[List.length_cons,h5]at e1;subst e1;have H:=hid h;have HL:=hid (fun (S:Nat→Prop) w' (hS:∀ q,S q→PaOwn pb bv bl q∨w.heap.size≤q) (t:Turn S w w')=>(RowIn.turn hl t (fun q hq hr=>by rcases hS q hr with h1 | h1;exact (hY q hq).1 h1;have:=(hY q hq).2;omega) (fun _ _ h=>h):StrsIn w' _ (d::r)))
 have tO:=hid hY;have HB:=hid hb;have hv:=hid h5;have Tc:((n:Int)<1)=False:=by simp;omega
 have tG:1≤n∧n≤400001:=by omega
 have t4:n≤c:=by
  rcases hl with ⟨_,_,h2⟩|⟨_,_,_,h1,h2,_⟩
  ·cases h2
  ·cases h1;rw[List.length_cons,h5]at h2;exact h2
 clear h hl hY hb h5;go_enter Tryz.func91,Tryz.ntmps91
 go_wp2_with fail
 refine (ZL w H.out _ 70).mono ?_;rintro e1 w1 ⟨rfl,hp,ht⟩;have H8:∀ x:Bool,x=false→Yj 0 x 70=Vk (d::r) 1:=fun x hx=>by subst hx;rfl
 rw[H8 _ (by simp)]at hp;have HP:=hid hp;have HT:=hid ht;clear hp ht H8;go_wp2_with fail
 go_loopw [4] (fun io wr=>∃ k:Nat,io=.int .i64 k∧1≤k∧k≤n∧RPa w0 pb params pl (Vk (d::r) k) bv bl wr∧Turn (fun q=>q=pb) w wr) (fun io _=>n-(intOf io).toNat)
 case atStart=>exact⟨1,rfl,by omega,by omega,HP.out,HT.out⟩
 case round =>
  obtain⟨k,rfl,H5,hk,hp,ht⟩:=hrel;by_cases hH:k<n
  ·obtain⟨bx,off,x,rfl,hK,hx,hc,hy⟩:=StrsIn.at (HL.out _ wr (fun q hq=>.inl (.inl hq)) ht) (by rw[List.length_cons,hv.out];exact hH)
   have HX:=hid hx;have hC:=hid hp;have hB:=hid ht;have hV:=hid (Zbu x wr hy);clear hp ht hx hy;obtain⟨cx,hJ⟩:∃ cx,colons x=cx:=⟨_,rfl⟩
   have Hi:=hid hJ;clear hJ;go_wp2_with fail
   refine hV.out.mono ?_;rintro e2 w2 ⟨rfl,hj⟩;rw[Hi.out];have tT:=hid (hC.out.keep hj);have hN:=hid (hB.out.later (Turn.since (S:=fun q=>q=pb) hj) (fun q hq=>.inl hq));clear hj hc hK;go_wp2_with fail
   refine (ZL w2 tT.out _ 70).mono ?_;rintro e3 w3 ⟨rfl,Hr,hi⟩;rw[←Hi.out,Zd8 HX.out H5]at Hr;have HQ:=hid Hr;have He:=hid (hN.out.trans hi);clear Hr hi;go_wp2
   go_roundw
   case rel=>exact⟨k+1,by go_num,by omega,by omega,HQ.out,He.out⟩
   case measure=>simp[intOf];omega
  ·obtain rfl:n=k:=by omega
   have c3:wr.cell? ⟨pb,3,none⟩=some (.int .i64 (Vk (d::r) n)):=hp.cell 3;have h3:=hp.box.lt;have hC:=hid hp;have hB:=hid ht;clear hp ht;by_cases hg:Vk (d::r) n=0
   ·rw[hg]at c3;rw[hg]at hC;have H6:=Ze8 (d:=d) (r:=r) ⟨params,bl.map FBlk.d,pl⟩ (by rw[hv.out];exact hg);have tW:=hid H6;clear hg H6 hH;go_wp2_with fail
    have H1:Stays (fun q=>q=pb) wr (.slice a 1 c):=KA (tO.out.mono (fun q hq=>.inl (.inl hq)) hB.out.size)
    refine (XF wr hC.out _ [d] (RowIn.first (HL.out _ wr (fun q hq=>.inl (.inl hq)) hB.out) tG.1 (by decide)) H1 (by simp)).mono ?_
    rintro e4 w4 ⟨rv,rfl,he,Hq,HZ⟩;rw[ZaK d r]at Hq;obtain⟨g4,c4,rfl,Tb,Ta,tK,tJ,H7⟩:=WM (show w4.ownsRow _ _ 1 _ 1 [.int .i64 (ZS d)] from he);obtain⟨dn,HD⟩:∃ dn,ZS d=dn:=⟨_,rfl⟩
    rw[HD]at H7;have tX:=hid HD;have HQ:=hid Hq;have He:=hid (hB.out.trans HZ);clear he Hq HZ HD H1 c3 tK;go_wp2_with fail
    obtain⟨xb,hF⟩:∃ xb,w4.heap.size=xb:=⟨_,rfl⟩
    have Td:=hid hF;have HG:HeapIs (w4.alloc (.cells #[.int .i64 dn,.slice none 0 0] 60)) xb #[.int .i64 dn,.slice none 0 0] 60:=by rw[←hF];exact HeapIs.new _ _ _
    have tC:=hid HG;have td:w.heap.size≤xb:=by rw[←hF];exact He.out.size
    have Hj:=hid td;rw[hF];clear HG hF H7 tJ h3 td
    go_loopw [9] (fun io w9=>∃ (k:Nat) (inv:Value),io=.int .i64 k∧1≤k∧k≤n∧HeapIs w9 xb #[.int .i64 dn,inv] 60∧OwnRow prcells 2 71 w.heap.size w9 inv ((r.take (k-1)).map Xy)∧RPa w0 pb params pl (VI d r (k-1)) bv bl w9∧Turn (fun q=>q=pb) w w9) (fun io _=>n-(intOf io).toNat)
    case atStart=>exact⟨1,_,rfl,by omega,by omega,tC.out,OwnRow.nil _ _ _ _ _,HQ.out.keep ((Since.refl _).alloc _),He.out.alloc _⟩
    case round =>
     obtain⟨k,inv,rfl,H5,hk,HU,h4,hh,HY⟩:=hrel;obtain⟨ia,ic,HC⟩:=Ze h4;obtain⟨ps,hs⟩:∃ ps,(r.take (k-1)).map Xy=ps:=⟨_,rfl⟩
     rw[hs]at h4 HC;obtain⟨il,h6⟩:∃ il,ps.length=il:=⟨_,rfl⟩
     have Hh:=hid hs;rw[h6]at HC;subst HC;have t3:il≤400000:=by rw[←h6,←hs,List.length_map,List.length_take];omega
     clear hs;have HR:=hid h6;have tf:=hid HU;have hm:=hid h4;have hO:=hid hh;have HJ:=hid HY;clear h6 HU h4 hh HY;by_cases hH:k<n
     ·obtain⟨bx,off,x,rfl,hK,hx,hc,hy⟩:=StrsIn.at (HL.out _ wr (fun q hq=>.inl (.inl hq)) HJ.out) (by rw[List.length_cons,hv.out];exact hH)
      have HV:r[k-1]? = some x:=by rw[←hx];obtain⟨j,rfl⟩:∃ j,k=j+1:=⟨k-1,by omega⟩;rfl
      have te:=hid HV;have hV:=hid (Zbu x wr hy);have tN:=hid hy;obtain⟨cx,hJ⟩:∃ cx,colons x=cx:=⟨_,rfl⟩
      have Hi:=hid hJ;clear hx HV hy hJ;go_wp2_with fail
      refine hV.out.mono ?_;rintro e5 w5 ⟨rfl,H0⟩;rw[Hi.out];have HK:=hid H0;clear H0 hc hK;obtain⟨fx,h8⟩:∃ fx,YQ x=fx:=⟨_,rfl⟩
      obtain⟨gx,h7⟩:∃ gx,Yv x=gx:=⟨_,rfl⟩
      have h1:=QE x;have h2:=KP x;have tp:=zH (fx.size≤1000000∧gx.size≤1000000) (by have:=tN.out;rw[←h8,←h7];omega);rw[h8,h7];have tn:=hid h8;have tm:=hid h7;clear h1 h2 h8 h7;go_wp2_with fail
      have Hf:=hid (HK.out.alloc (.cells #[.string fx,.string gx] 9));have tS:=hid (hO.out.keep Hf.out);have tr:pb<w5.heap.size:=Nat.lt_of_lt_of_le hO.out.box.lt HK.out.size;have Hm:Stays (fun q=>q=pb) (w5.alloc (.cells #[.string fx,.string gx] 9)) (.slice (some ⟨w5.heap.size,0,none⟩) 2 2):=fun q hq=>by cases hq;exact⟨fun e=>by have e2:w5.heap.size=pb:=e;omega,(HeapIs.new w5 _ _).lt⟩
      refine (XF _ tS.out _ [fx,gx] (Zbl w5 fx gx _ tp.out.1 tp.out.2) Hm (by simp)).mono ?_;rintro e7 w7 ⟨rv,rfl,he,Hp,hX⟩;rw[←tn.out,←tm.out,ZaL te.out,show k-1+1=k+1-1 from by omega]at Hp;have H4:pb<w.heap.size:=H.out.box.lt;have Hk:=(tf.out.keep Hf.out).turn hX (by have:=Hj.out;omega);have Hs:=Zi (OwnRow.keep hm.out Hf.out) hX (fun q hq hr=>by have:=(World.ownsRow.lt hm.out q hq).1;omega)
      have tj:=hid ((HJ.out.later (Turn.since (S:=fun q=>q=pb) Hf.out) (fun q hq=>.inl hq)).trans hX);obtain⟨na,Hw⟩:∃ na,ZS fx=na:=⟨_,rfl⟩
      obtain⟨nv,Ht⟩:∃ nv,ZS gx=nv:=⟨_,rfl⟩
      obtain⟨nb,nc,rfl,t2,tu,tF,Hv,HF,HE⟩:=ZcG (show w7.ownsRow _ _ 1 _ 2 [.int .i64 (ZS fx),.int .i64 (ZS gx)] from he);rw[Hw]at HF;rw[Ht]at HE;have tU:=zH ((ZS (YQ x),ZS (Yv x))=(na,nv)) (by rw[tn.out,tm.out,Hw,Ht]);have tR:=hid Hp;have ti:=hid Hk;have tk:=hid Hs;have tD:w5.heap.size<(w5.alloc (.cells #[.string fx,.string gx] 9)).heap.size:=(HeapIs.new w5 _ _).lt;have hR:=hid (show ¬ (Value.slice ia il ic).ownBlock=some pb∧¬ (Value.slice ia il ic).ownBlock=some xb∧¬ (Value.slice ia il ic).ownBlock=some nb from
       ⟨fun e=>by have:=(World.ownsRow.lt hm.out pb e).1;omega,Zk Hs Hk (by decide),fun e=>by have:=(World.ownsRow.lt hm.out nb e).2;have:=HK.out.size;omega⟩)
      have tY:=hid HF;have HS:=hid HE;have hE:=hid Hv;have tQ:=hid H4;clear he Hp hX Hk Hs Hw Ht HF HE tF Hv tD tr Hm H4 tu;go_wp2_with fail
      refine Z4 11 10 [10] [0,0,0,0,0,0,0,0,0,0,0] [0,0,0,0,0,0,0,0,0,0,0] [0,0,0,0,0,0,0,0,0,0,1] (fun q=>(Value.slice ia il ic).ownBlock=some q) (fun p w8=>p=0→Since w7 w8) rfl (by decide +kernel) (by decide +kernel) (by decide +kernel) (by decide) (by decide +kernel)
       [Is (.pointer (some ⟨xb,1,none⟩)),Is (.slice ia il ic),Is (.slice (some ⟨nb,0,none⟩) 2 nc),Is (.pointer (some ⟨nb,0,none⟩)),Is (.int .i64 na),Is (.slice (some ⟨nb,0,none⟩) 2 nc),Is (.pointer (some ⟨nb,1,none⟩)),Is (.int .i64 nv),Is (.agg #[.int .i64 na,.int .i64 nv]),ZW prcells 71 (fun q=>(Value.slice ia il ic).ownBlock=some q) (na,nv),Yb prcells 2 71 w7 (.slice ia il ic) (ps++[(na,nv)])]
       (by repeat (first | exact trivial | refine⟨fun h=>absurd rfl h,?_⟩ | refine⟨fun _=>Is.stableT _ _,?_⟩ | refine⟨fun _=>Any.stableT _,?_⟩ | refine⟨fun _=>ZW.stableT _ _ _ _,?_⟩)) (by repeat (first | exact trivial | refine⟨Is.stable _,?_⟩ | refine⟨Any.stable,?_⟩ | refine⟨ZW.stable _ _ _ _,?_⟩ | refine⟨Yb.stable _ _ _ _ _ _,?_⟩)) (fun _=>(Since.refl w7).drew) ⟨?_,?_,?_,?_,?_,?_,?_,?_,?_,?_,?_,trivial⟩ ?_
      rotate_right
      ·intro vs w8 ht ha hk;simp only[List.take,List.drop,putAll,Act.put,Zc,Zd,Is,List.setIfInBounds_toArray,List.set_cons_zero,List.set_cons_succ,Nat.reduceAdd]at hk ⊢;try simp only[hk]
       obtain⟨wa,hG,hW,hf,hd⟩:Yb prcells 2 71 w7 (.slice ia il ic) (ps++[(na,nv)]) (vs 10) w8:=by exact hk.2.2.2.2.2.2.2.2.2.2.1
       generalize vs 10=nw at *;have ho:=ti.out.turn ht hR.out.2.1;have ta:=tR.out.box.turn ht hR.out.1;have t7:=ho.lt;have t8:=ho.frozen;have k1:w8.cell? ⟨xb,1,none⟩=some (.slice ia il ic):=ho.cell 1;have Hz:∀ q,nw.ownBlock=some q→w.heap.size≤q:=fun q hq=>by
        rcases hf q hq with h1|h1
        ·exact (World.ownsRow.lt hm.out q h1).1
        ·have:=tj.out.size;have:=hG.size;omega
       obtain⟨ja,jc,hI⟩:=Ze hd;rw[List.length_append,HR.out]at hI;subst hI;have hM:=hid (tj.out.later ht (fun q hq=>.inr (World.ownsRow.lt hm.out q hq).1))
       have th:=hid ho;have t1:=hid ta;have hD:=hid hd;have tB:=hid Hz;clear hk ha ht hG hW hf ho ta hd Hz;go_wp2
       go_roundw
       case rel =>
        have hx:=th.out.set 1 (.slice ja (il+1) jc);have Hl:=hM.out.later ((Turn.refl (fun q=>q=xb) w8).setCell (p:=⟨xb,1,none⟩) rfl (.slice ja (il+1) jc)) (fun q hq=>.inr (by subst hq;exact Hj.out))
        have tz:=t1.out.turn ((Turn.refl (fun q=>q=xb) w8).setCell (p:=⟨xb,1,none⟩) rfl (.slice ja (il+1) jc)) (fun e=>by have:=tQ.out;have:=Hj.out;omega);have tt:=Zi hD.out ((Turn.refl (fun q=>q=xb) w8).setCell (p:=⟨xb,1,none⟩) rfl (.slice ja (il+1) jc)) (fun q hq hr=>by subst hr;exact Zk hD.out th.out (by decide) hq)
        refine⟨k+1,.slice ja (il+1) jc,by go_num,by omega,by omega,hx,?_,H.out.reBox Hl tz,Hl⟩;have e1:(r.take (k+1-1)).map Xy=ps++[(na,nv)]:=by
         have:=Qx te.out;rw[show k-1+1=k+1-1 from by omega,Hh.out,tU.out]at this;exact this
        rw[e1];exact Zea tt tB.out
       case measure=>simp[intOf];omega
      all_goals
       intro p vs w8 tH tI ht ha hk;simp only[List.take,putAll,Act.put,Zh,Zd,Is,List.setIfInBounds_toArray,List.set_cons_zero,List.set_cons_succ,Nat.reduceAdd]at hk ⊢;try simp only[hk]
      ·go_wp2
       exact⟨_,rfl,rfl,Since.refl _,ha⟩
      ·have ho:=ti.out.turn ht hR.out.2.1;have k1:w8.cell? ⟨xb,1,none⟩=some (.slice ia il ic):=ho.cell 1;have k2:=ho.lt;go_wp2
       exact⟨_,rfl,rfl,Since.refl _,ha⟩
      iterate 2
       ·go_wp2
        exact⟨_,rfl,rfl,Since.refl _,ha⟩
      ·have k1:w8.cell? ⟨nb,0,none⟩=some (.int .i64 na):=(ht.cell hE.out hR.out.2.2).trans tY.out;have k2:nb<w8.heap.size:=Nat.lt_of_lt_of_le hE.out ht.size;go_wp2
       exact⟨_,rfl,rfl,Since.refl _,ha⟩
      iterate 2
       ·go_wp2
        exact⟨_,rfl,rfl,Since.refl _,ha⟩
      ·have k1:w8.cell? ⟨nb,1,none⟩=some (.int .i64 nv):=(ht.cell hE.out hR.out.2.2).trans HS.out;have k2:nb<w8.heap.size:=Nat.lt_of_lt_of_le hE.out ht.size;go_wp2
       exact⟨_,rfl,rfl,Since.refl _,ha⟩
      ·go_wp2
       exact⟨_,rfl,rfl,Since.refl _,ha⟩
      ·have Hu:¬ (Value.slice ia il ic).ownBlock=some w8.heap.size:=fun e=>by have:=(World.ownsRow.lt tk.out _ e).2;have:=ht.size;omega
       have hj:=(Since.refl w8).alloc (.cells (prcells (na,nv)).toArray 71);have HP:=hid (fun (e:p=0)=>(ha e).trans hj)
       clear hk ha;go_wp2
       exact⟨_,rfl,⟨_,rfl,HeapIs.new _ _ _,Hu⟩,hj,HP.out⟩
      ·obtain rfl:p=0:=by omega
       have hu:=ha rfl;obtain⟨b1,Hc,Hb,Ha⟩:ZW prcells 71 (fun q=>(Value.slice ia il ic).ownBlock=some q) (na,nv) (vs 9) w8:=hk.2.1
       simp only[Hc];have he:=OwnRow.keep tk.out hu;have HM:=hid hu;clear hk ha hu Hc;refine Zf prcells 2 YB (by decide) rfl _ _ 58 rfl 71 (.agg #[.int .i64 0,.int .i64 0]) 16 Tryz.underlying58 (by kernel_rfl) rfl (.slice ia il ic) _ (na,nv) b1 1 _ rfl rfl (OwnRow.low he) Hb (by unfold prcells;simp[Value.oneCell']) (by rw[HR.out];unfold maxLen;omega) (by rw[HR.out];omega) (Nat.zero_le _) ?_;intro v' w3 hd hi hf;have HA:=zH (Yb prcells 2 71 w7 (.slice ia il ic) (ps++[(na,nv)]) v' w3) ⟨w8,HM.out,hi,hf,hd⟩;have hN:=hid hi;clear hd hi hf he Hb Ha;go_wp2
       exact⟨_,rfl,HA.out,hN.out,fun e=>absurd e (by decide)⟩
     ·obtain rfl:n=k:=by omega
      have H2:r.take (n-1)=r:=by rw[←hv.out];exact List.take_of_length_le (by simp)
      have hs:=Hh.out;rw[H2]at hs;have Hh:=hid hs;clear hs;rw[show n-1=r.length from by rw[←hv.out];rfl]at hO
      have hh:=hO.out;have hT:=hid (hh.last b HB.out);have Hn:0<bl.length:=by
       rcases Nat.eq_zero_or_pos bl.length with h0|h0
       ·have:=(List.getElem?_eq_some_iff.1 HB.out).1;omega
       ·exact h0
      obtain⟨bb,bc,H9,tL,tw,_,HH,tx,hL⟩:=YT hh.row Hn;obtain⟨mm,Hx⟩:∃ mm,bl.length=mm+1:=⟨bl.length-1,by omega⟩
      rw[Hx]at H9 Hc tL;subst H9;have Hy:bl.length-1=mm:=by omega
      obtain⟨pa,pc,hz⟩:=Ze hT.out.phis;obtain⟨pn,Ho⟩:∃ pn,b.phis.length=pn:=⟨_,rfl⟩
      rw[Ho]at hz Hb;have c1:wr.cell? ⟨pb,1,none⟩=some (.slice (some ⟨bb,0,none⟩) (mm+1) bc):=hh.cell 1;have c2:wr.cell? ⟨bb,mm*6,none⟩=some (.slice pa pn pc):=by
       rw[←hz];refine hL (mm*6) b.phv ?_;have h9:=YP fbcells 6 Zs bl mm 0 b (by rw[←Hy];exact HB.out) (by decide);exact h9
      obtain⟨cur,HI⟩:=Xz hh.row (q:=bb) rfl;have t0:=zH (HeapIs wr bb cur 57) HI;have HN:=zH (OwnRow fpcells 2 60 0 wr (.slice pa pn pc) b.phis) (by rw[←hz];exact hT.out.phis);have h3:pb<wr.heap.size:=hh.box.lt;have HS:=hid c1;have tq:=hid c2;have tl:=hid Hy;have Hg:=hid hz;have HO:=hid Ho;have tV:=hid Hx;have hQ:=zH (pb<wr.heap.size∧bb<wr.heap.size) ⟨h3,HH⟩;have hP:=hid (show ¬ (Value.slice pa pn pc).ownBlock=some pb∧¬ (Value.slice pa pn pc).ownBlock=some bb∧¬ (Value.slice pa pn pc).ownBlock=some xb from by
       rw[←hz];exact⟨Zk hT.out.phis hh.box (by decide),fun e=>Z9 hT.out.phis hh.row (by decide) bb e rfl,fun e=>by have:=H.out.lt xb (.inr (.inr ⟨b,HB.out,.inl e⟩));have:=Hj.out;omega⟩)
      clear hh Hn HH tx hL Hy hz Ho Hx tw c2 H2 HI;go_wp2_with fail
      clear c1 h3;refine Z4 18 17 [17] [0,0,0,0,0,0,0,0,0,0,0,0,0,0,0,0,0,0] [1,1,1,1,1,1,0,0,0,0,0,0,0,0,0,0,0,0] [0,0,0,0,0,0,0,0,0,0,0,0,0,0,0,0,0,1] (fun q=>(Value.slice pa pn pc).ownBlock=some q) (fun p w8=>p=0→Since wr w8) rfl (by decide +kernel) (by decide +kernel) (by decide +kernel) (by decide) (by decide +kernel)
       [Is (.pointer (some ⟨pb,0,none⟩)),Is (.pointer (some ⟨pb,0,none⟩)),Is (.pointer (some ⟨pb,0,none⟩)),Is (.pointer (some ⟨pb,1,none⟩)),Is (.slice (some ⟨bb,0,none⟩) (mm+1) bc),Is (.int .i64 mm),Is (.pointer (some ⟨pb,0,none⟩)),Is (.pointer (some ⟨pb,0,none⟩)),Is (.pointer (some ⟨pb,0,none⟩)),Is (.pointer (some ⟨pb,1,none⟩)),Is (.slice (some ⟨bb,0,none⟩) (mm+1) bc),Is (.int .i64 mm),Is (.pointer (some ⟨bb,mm*6,none⟩)),Is (.pointer (some ⟨bb,mm*6,none⟩)),Is (Value.slice pa pn pc),Is (.agg #[.int .i64 dn,.slice ia il ic]),ZW fpcells 60 (fun q=>(Value.slice pa pn pc).ownBlock=some q) (⟨dn,ps,.slice ia il ic⟩:ZC),Yb fpcells 2 60 wr (Value.slice pa pn pc) (b.phis++[(⟨dn,ps,.slice ia il ic⟩:ZC)])]
       (by repeat (first | exact trivial | refine⟨fun h=>absurd rfl h,?_⟩ | refine⟨fun _=>Is.stableT _ _,?_⟩ | refine⟨fun _=>Any.stableT _,?_⟩ | refine⟨fun _=>ZW.stableT _ _ _ _,?_⟩)) (by repeat (first | exact trivial | refine⟨Is.stable _,?_⟩ | refine⟨Any.stable,?_⟩ | refine⟨ZW.stable _ _ _ _,?_⟩ | refine⟨Yb.stable _ _ _ _ _ _,?_⟩)) (fun _=>(Since.refl wr).drew) ⟨?_,?_,?_,?_,?_,?_,?_,?_,?_,?_,?_,?_,?_,?_,?_,?_,?_,?_,trivial⟩ ?_
      rotate_right
      ·intro vs w8 ht ha hk;simp only[List.take,List.drop,putAll,Act.put,Zc,Zd,Is,List.setIfInBounds_toArray,List.set_cons_zero,List.set_cons_succ,Nat.reduceAdd]at hk ⊢;try simp only[hk]
       obtain⟨wa,hG,hW,hf,hd⟩:Yb fpcells 2 60 wr (Value.slice pa pn pc) (b.phis++[(⟨dn,ps,.slice ia il ic⟩:ZC)]) (vs 17) w8:=by exact hk.2.2.2.2.2.2.2.2.2.2.2.2.2.2.2.2.2.1
       generalize vs 17=nw at *;obtain⟨ja,jc,hI⟩:=Ze hd;rw[List.length_append,HO.out]at hI;subst hI;have hU:=t0.out.turn ht hP.out.2.1;have t5:=hU.lt;have t6:=hU.frozen;have k1:w8.cell? ⟨bb,mm*6,none⟩=some (Value.slice pa pn pc):=(ht.cell hQ.out.2 hP.out.2.1).trans tq.out;have hD:=hid hd;have hM:=hid ht;have Te:=hid hW;have tP:=hid hG;have tA:=hid hf;clear hk ha ht hG hW hf hU hd;go_wp2
       go_end0
       have hA:=hT.out;have ts:Vy (PaS w0 pb (.slice (some ⟨bb,0,none⟩) (mm+1) bc) bl) wr (⟨dn,ps,.slice ia il ic⟩:ZC):=⟨Yf YB hm.out (fun _ _=>trivial),fun q hq=>⟨fun h=>by have:=H.out.ltS q h;have:=(World.ownsRow.lt hm.out q hq).1;omega,(World.ownsRow.lt hm.out q hq).2⟩⟩
       have tv:=Zi hA.ins hM.out (fun q hq hr=>Z9 hA.ins hA.phis (by decide) q hq (by rw[Hg.out];exact hr))
       have tE:ZP wr b.phv (.slice ja (pn+1) jc):=fun q hq=>by
        rcases tA.out q hq with h1|h1
        ·exact .inl (by rw[Hg.out];exact h1)
        ·have:=tP.out.size;exact .inr (by omega)
       have HW:=PaM.upd hO.out (b':={ b with phis:=b.phis++[⟨dn,ps,.slice ia il ic⟩],phv:=.slice ja (pn+1) jc }) HB.out (bb:=bb) (cap:=bc) (by rw[tV.out]) (w1:=w8) (hM.out.mono (fun q _ hq=>.inl (by rw[Hg.out];exact hq))) 0 (by decide) (.slice ja (pn+1) jc) rfl hD.out tv tE (fun q hq=>.inl hq) (fun p hp=>by rcases List.mem_append.1 hp with h1 | h1;exact hA.phi p h1;rw[List.mem_singleton.1 h1];exact ts) hA.inx hA.term
       rw[tl.out]at HW;refine⟨rfl,VI d r r.length,_,HW,?_,?_⟩
       ·refine ((HJ.out.mono fun q _ hq=>.inl hq:Turn (PaOwn pb _ bl) w wr).trans (hM.out.mono fun q _ hq=>.inr (.inr ⟨b,HB.out,.inl (by rw[Hg.out];exact hq)⟩))).setCell ?_ _
        exact .inr (.inl rfl)
       ·rw[tW.out,Zbx]
        cases t9:(Ya d&&r.all Wa)
        ·exact⟨rfl,by decide⟩
        ·refine⟨rfl,rfl,?_⟩;have:=WP (b':={ b with phis:=b.phis++[⟨dn,ps,.slice ia il ic⟩],phv:=.slice ja (pn+1) jc }) HB.out ⟨params,bl.map FBlk.d,pl⟩ rfl (fun b=>⟨b.phis++[⟨ZS d,r.map Xy⟩],b.ins,b.term⟩) (by rw[tX.out,Hh.out];simp[FBlk.d,ZC.d]);rw[tl.out]at this;exact this
      all_goals
       intro p vs w8 tH tI ht ha hk;simp only[List.take,putAll,Act.put,Zh,Zd,Is,List.setIfInBounds_toArray,List.set_cons_zero,List.set_cons_succ,Nat.reduceAdd]at hk ⊢;try simp only[hk]
      iterate 2
       iterate 4
        ·go_wp2
         exact⟨_,rfl,rfl,Since.refl _,ha⟩
       ·have k1:w8.cell? ⟨pb,1,none⟩=some (.slice (some ⟨bb,0,none⟩) (mm+1) bc):=(ht.cell hQ.out.1 hP.out.1).trans HS.out;have k2:pb<w8.heap.size:=Nat.lt_of_lt_of_le hQ.out.1 ht.size;go_wp2
        exact⟨_,rfl,rfl,Since.refl _,ha⟩
       ·go_wp2
        exact⟨_,rfl,rfl,Since.refl _,ha⟩
      iterate 2
       ·go_wp2
        exact⟨_,rfl,rfl,Since.refl _,ha⟩
      ·have k1:w8.cell? ⟨bb,mm*6,none⟩=some (Value.slice pa pn pc):=(ht.cell hQ.out.2 hP.out.2.1).trans tq.out;have k2:bb<w8.heap.size:=Nat.lt_of_lt_of_le hQ.out.2 ht.size;go_wp2
       exact⟨_,rfl,rfl,Since.refl _,ha⟩
      ·have hK:=tf.out.turn ht hP.out.2.2;clear hk;refine wpList_load_row rfl _ _ rfl xb rfl 60 _ (0,0) _ hK Tryz.underlying60 rfl (by kernel_rfl) ?_;go_wp2
       exact⟨_,rfl,rfl,Since.refl _,ha⟩
      ·have Hu:¬ (Value.slice pa pn pc).ownBlock=some w8.heap.size:=fun e=>by have:=(World.ownsRow.lt HN.out _ e).2;have:=ht.size;omega
       have hj:=(Since.refl w8).alloc (.cells (fpcells (⟨dn,ps,.slice ia il ic⟩:ZC)).toArray 60);have HP:=hid (fun (e:p=0)=>(ha e).trans hj)
       clear hk ha;go_wp2
       exact⟨_,rfl,⟨_,rfl,HeapIs.new _ _ _,Hu⟩,hj,HP.out⟩
      ·obtain rfl:p=0:=by omega
       have hu:=ha rfl;obtain⟨b1,Ha,tc,tM⟩:ZW fpcells 60 (fun q=>(Value.slice pa pn pc).ownBlock=some q) (⟨dn,ps,.slice ia il ic⟩:ZC) (vs 16) w8:=hk.2.1
       simp only[Ha];have he:=OwnRow.keep HN.out hu;have HM:=hid hu;clear hk ha hu Ha;refine Zf fpcells 2 YR (by decide) rfl _ _ 55 rfl 60 (.agg #[.int .i64 0,.slice none 0 0]) 32 Tryz.underlying55 (by kernel_rfl) rfl (Value.slice pa pn pc) _ (⟨dn,ps,.slice ia il ic⟩:ZC) b1 1 _ rfl rfl he tc (by unfold fpcells;simp[Value.oneCell']) (by rw[HO.out];unfold maxLen;omega) (by rw[HO.out];omega) (Nat.zero_le _) ?_;intro v' w3 hd hi hf;have HA:=zH (Yb fpcells 2 60 wr (Value.slice pa pn pc) (b.phis++[(⟨dn,ps,.slice ia il ic⟩:ZC)]) v' w3) ⟨w8,HM.out,hi,hf,hd⟩;have hN:=hid hi;clear hd hi hf he tc tM;go_wp2
       exact⟨_,rfl,HA.out,hN.out,fun e=>absurd e (by decide)⟩
   ·obtain⟨H3,hZ⟩:=Zf2 (d:=d) (r:=r) ⟨params,bl.map FBlk.d,pl⟩ (by rw[hv.out];exact hg);rw[hv.out]at hZ;rw[hZ]at c3;rw[hZ]at hC;have tZ:=hid H3;clear hg H3 hZ hH;go_wp2
    go_end0
    exact⟨rfl,70,bl,hC.out,hB.out.mono (fun q _ hq=>.inl hq),by rw[tZ.out];exact⟨rfl,by decide⟩⟩
end
end Go.Proofs.YtmhojfpidedjeaaGreatDoor
