import Derived.Test.YtmhojfpidedjeaaGreatDoorTp19
import Derived.Test.YtmhojfpidedjeaaGreatDoorTp23
namespace Go.Proofs.YtmhojfpidedjeaaGreatDoor
open Go.RowKit Go.Lib
set_option linter.unusedVariables false
set_option maxHeartbeats 8000000
set_option maxRecDepth 100000
theorem Ye {w : World} {g : Nat} {old:Array Value} {t : TypeId} (h:w.heap[g]? = some (.cells old t (0,0))) (cs:Array Value):(w.setRow g cs).heap[g]? = some (.cells cs t (0,0)):=by
 simp[World.setRow,Array.getElem?_modify,h]
theorem VG {S : Nat→Prop} {w : World} {g : Nat} (hg:S g) (cs:Array Value):Turn S w (w.setRow g cs):=by
 refine⟨rfl,rfl,rfl,by simp[World.setRow],fun k hk hs=>?_⟩;have:g≠k:=fun e=>hs (e ▸ hg)
 simp[World.setRow,Array.getElem?_modify,this]
section
variable {T : TypeId} {w0 w:World} {pb:Nat} {tl:List Value} {params pl e:Int} {bv:Value} {bl:List FBlk}
theorem PaM.start (w:World) (T:TypeId) (tl:List Value) (hk:T≠57∧T≠60∧T≠51):PaM T w w.heap.size tl 0 0 0 (.slice none 0 0) [] (w.alloc (.cells (.int .i64 0::.slice none 0 0::.int .i64 0::.int .i64 0::tl).toArray T)):=
 ⟨HeapIs.new _ _ _,OwnRow.nil _ _ _ _ _,fun i b h=>(by simp at h),fun b h=>(by simp at h),(Since.refl w).alloc _,fun q hq=>(by
  rcases hq with h|h|⟨b,h,_⟩
  ·omega
  ·cases h
  ·simp at h),hk⟩
theorem RowIn.imp {α:Type} {f : α→List Value} {sz:Nat} {p p':World→α→Prop} {w : World} {v : Value} {l : List α} (h:RowIn f sz p w v l) (hp:∀ x,p w x→p' w x):RowIn f sz p' w v l:=by
 rcases h with h|⟨b,off,cap,h1,h2,h3,h4,h5⟩
 ·exact .inl h
 ·exact .inr ⟨b,off,cap,h1,h2,h3,h4,fun j x hj=>⟨(h5 j x hj).1,hp x (h5 j x hj).2⟩⟩
theorem VS.fn {S : Nat→Prop} {b : FBlk} (h:VS S w b):We w b:=⟨RowIn.imp h.phis fun _ hx=>hx.1,RowIn.imp h.ins fun _ hx=>hx.1,h.term.read⟩
theorem PaM.fnTurn {R : Nat→Prop} {w':World} (h:PaM T w0 pb tl params pl e bv bl w) (t:Turn R w w') (hR:∀ q,R q→q<w0.heap.size):FnIn w' ⟨params,bl,bv⟩:=by
 have hn:∀ q,PaOwn pb bv bl q→¬ R q:=fun q hq hr=>by have:=h.new q hq;have:=hR q hr;omega
 have h1:∀ q,R q→PaS w0 pb bv bl q:=fun q hq=>.inr (hR q hq)
 have h2:∀ q,PaS w0 pb bv bl q→PaS w0 pb bv bl q∨w.heap.size≤q:=fun q hq=>.inl hq
 refine Yf Zs (Zi h.row t fun q hq=>hn q (.inr (.inl hq))) fun b hb=>?_
 obtain⟨i,hi⟩:=List.getElem?_of_mem hb;have ha:i<bl.length:=(List.getElem?_eq_some_iff.1 hi).1;by_cases hl:i+1<bl.length
 ·exact ((h.early i b hi hl).turn t h1 h2).fn
 ·obtain rfl:i=bl.length-1:=by omega
  have hl:=h.last b hi;exact⟨Yf YR (Zi hl.phis t fun q hq=>hn q (.inr (.inr ⟨b,hi,.inl hq⟩))) fun p hp=>((hl.phi p hp).turn t h1 h2).1,Yf Xk (Zi hl.ins t fun q hq=>hn q (.inr (.inr ⟨b,hi,.inr hq⟩))) fun x hx=>((hl.inx x hx).turn t h1 h2).1,(hl.term.turn t h1 h2).read⟩
theorem Y7.some {x : LnV} {f : ByteArray} {r : List ByteArray} (h:Y7 w x) (hx:x.ws=f::r) {q : Nat} (hq:x.wv.ownBlock=some q):q<w.heap.size:=by
 unfold Y7 at h;rcases h with ⟨_,_,h2⟩|⟨b,off,cap,h1,_,_,h4,_⟩
 ·rw[hx]at h2;cases h2
 ·rw[h1]at hq;cases hq;exact h4
end
def ZcZ (f:FnV) (line e:Int):Value:=.agg #[.int .i64 f.params,f.bv,.int .i64 line,.int .i64 e]
def ZgF (s:ByteArray) (w:World) (e:Ending) (w':World):Prop:=∃ f line er,e=.returned (ZcZ f line er)∧FnIn w' f∧(⟨f.d,line,er⟩:Xm)=Yu s.data.toList∧Since w w'
theorem Js (s:Bs):Yu s=match YK ZD ⟨0,[],0⟩ (numd 1 (linesOf s)) with
  | .error x=>⟨⟨0,[]⟩,x.1,x.2⟩
  | .ok t=>if t.pl=1∧t.blocks≠[] then ⟨⟨t.params,t.blocks⟩,0,0⟩ else ⟨⟨0,[]⟩,((linesOf s).length:Int),70⟩:=by
 unfold Yu;rw[V0 ZD (linesOf s) 0 ⟨0,[],0⟩];all_goals rfl
theorem Jc (w:World):FnIn w ⟨0,[],.slice none 0 0⟩:=.inl ⟨none,rfl,rfl⟩
theorem Q5 {σ:Type} {step:σ→List ByteArray→Except Int σ} {s t:σ} {D : List (List ByteArray × Int)} {i : Nat} {x : List ByteArray × Int} (h:YK step s (D.take i)=.ok t) (hx:D[i]? = some x):YK step s (D.take (i+1))=match step t x.1 with | .error e=>.error (x.2,e) | .ok u=>.ok u:=by
 rw[List.take_add_one,hx];show YK step s (D.take i++[x])=_
 rw[ZaH,h];all_goals rfl
theorem ZaG {σ:Type} {step:σ→List ByteArray→Except Int σ} {s : σ} {D : List (List ByteArray × Int)} {i : Nat} {e : Int × Int} (h:YK step s (D.take i)=.error e):YK step s D=.error e:=by
 have:=Qo step (D.take i) (D.drop i) s e h
 rwa [List.take_append_drop]at this
theorem Zbs (s:ByteArray) (w:World) (hs:s.size≤300000):Calls Tryz.prog 32 #[.string s] w (ZgF s w):=by
 go_enter Tryz.func32,Tryz.ntmps32
 go_wp2_with fail
 have Hx:=hid (HeapIs.new w #[.int .i64 0,.slice none 0 0,.int .i64 0,.int .i64 0] 81);have Hz:=hid ((Since.refl w).alloc (.cells #[.int .i64 0,.slice none 0 0,.int .i64 0,.int .i64 0] 81));refine (Qt s _ (by omega)).mono ?_;rintro e1 w2 ⟨lv,outl,rfl,hR,hS,hM⟩;obtain⟨la,lc,Hi,_⟩:=RowIn.shape hR;obtain⟨ln,hJ⟩:∃ n,outl.length=n:=⟨_,rfl⟩
 rw[hJ]at Hi;subst Hi;obtain⟨nn,hA⟩:∃ n:Nat,(linesOf s.data.toList).length=n:=⟨_,rfl⟩
 rw[hA];have hY:=hid (Hx.out.keep hM);have Hm:=hid (Hz.out.trans hM);have HH:nn≤300001:=by have:=W4 s.data.toList;rw[hA,Zq]at this;omega
 have HI:ln≤300001:=by have:=Jv (linesOf s.data.toList) 1;rw[←hS,List.length_map,hJ,hA]at this;omega
 have h6:=hid hR;have h7:=hid hS;have hC:=hid hJ;have Ho:=hid hA;clear hR hS hM hJ hA;obtain⟨pb,hO⟩:∃ q,w2.heap.size=q:=⟨_,rfl⟩
 have hP:=PaM.start w2 119 [] (by decide);rw[hO]at hP;have HB:=hid hP;have HK:=hid hO;clear hP;go_wp2_with fail
 clear hO
 go_loopw [6] (fun io wr=>∃ (i:Nat) (params pl:Int) (bv:Value) (bl:List FBlk),io=.int .i64 i∧i≤ln∧RPa w2 pb params pl 0 bv bl wr∧YK ZD ⟨0,[],0⟩ ((outl.map LnV.d).take i)=.ok ⟨params,bl.map FBlk.d,pl⟩∧FewSt i ⟨params,bl.map FBlk.d,pl⟩) (fun io _=>ln-(intOf io).toNat)
 case atStart=>exact⟨0,0,0,_,[],rfl,Nat.zero_le _,HB.out,rfl,FewSt.start⟩
 case round =>
  obtain⟨i,params,pl,bv,bl,rfl,hi,hp,hj,hU⟩:=hrel;have HP:=hid hp;have h0:=hid hj;have hh:=hid hU;have He:=hY.out.keep hp.old;have hu:=hid He;have Hf:=Hm.out.trans hp.old;have hZ:=hid Hf;clear hp hj hU He Hf;by_cases hI:i<ln
  ·obtain⟨b,off,x,rfl,hb,hx,hy,Hg⟩:=RowIn.at (RowIn.keep Y7.keep h6.out HP.out.old) (k:=i) (by rw[hC.out];exact hI);have c0:=hy 0 (by decide);have c1:=hy 1 (by decide);obtain⟨ws,wv,xn⟩:=x;rw[show lncells ⟨ws,wv,xn⟩=[wv,.int .i64 xn] from rfl]at c0 c1
   rw[Nat.add_zero]at c0;have c0:wr.cell? ⟨b,off+i*2,none⟩=some wv:=c0;have hV:(outl.map LnV.d)[i]? = some (ws,xn):=by rw[List.getElem?_map,hx];rfl
   have hD:=Ju (linesOf s.data.toList) 1 (ws,xn) (by rw[←h7.out];exact List.mem_of_getElem? hV);have hL:=KK s.data.toList ws hD.1;rw[Zq]at hL;obtain⟨f,r,Hw⟩:∃ f r,ws=f::r:=by
    match ws,hD.2 with
    | f::r,_=>exact⟨f,r,rfl⟩
   subst Hw;have hQ:Y7 w2 ⟨f::r,wv,xn⟩:=by
    obtain⟨b2,off2,x2,_,_,Hc,_,h3⟩:=RowIn.at h6.out (k:=i) (by rw[hC.out];exact hI);rw[hx]at Hc
    cases Hc
    exact h3
   have hf:Stays (PaOwn pb bv bl) wr wv:=fun q hq=>by
    have h1:=Y7.some hQ rfl hq;exact⟨fun h=>by have:=HP.out.new q h;omega,Nat.lt_of_lt_of_le h1 HP.out.old.size⟩
   have hK:=Zd5 wr HP.out ⟨hh.out.pl.1,hh.out.pl.2.1,fun h e=>hh.out.pl.2.2 h (by rw[e];rfl)⟩ wv f r Hg hf (by rw[List.length_cons]at hL;omega) (by have:=hh.out.bl;simp only[List.length_map]at this;omega) (fun b hb=>by
    have:=hh.out.each b.d (List.mem_map_of_mem (List.mem_of_getElem? hb));have e1:b.d.phis.length=b.phis.length:=by simp[FBlk.d]
    have e2:b.d.ins.length=b.ins.length:=by simp[FBlk.d]
    omega)
   have Ha:=hid hK;have Hp:=hid hV;clear hx hy Hg hV hD hL hQ hf hK;go_wp2_with fail
   refine Ha.out.mono ?_;rintro e3 w3 ⟨rfl,params2,pl2,E,bv2,bl2,hm,Ht,he⟩;have Hh:=Q5 h0.out Hp.out;have c3:w3.cell? ⟨pb,3,none⟩=some (.int .i64 E):=hm.cell 3;have hN:=hm.box.lt;have hF:=RowIn.keep Y7.keep h6.out hm.old;have c1b:w3.cell? ⟨b,off+i*2+1,none⟩=some (.int .i64 xn):=by
    obtain⟨b3,off3,x3,e1,_,Hs,h3,_⟩:=RowIn.at hF (k:=i) (by rw[hC.out];exact hI)
    cases e1
    have Hb:(outl.map LnV.d)[i]? = some x3.d:=by rw[List.getElem?_map,Hs];rfl
    rw[Hp.out]at Hb;have h4:=h3 1 (by decide);have h5:x3.n=xn:=by have:=congrArg (Option.map Prod.snd) Hb;simp[LnV.d]at this;exact this.symm
    rw[show lncells x3=[x3.wv,.int .i64 x3.n] from rfl,h5]at h4
    exact h4
   have Hk:b<w3.heap.size:=by
    obtain⟨b3,off3,x3,e1,h3,_⟩:=RowIn.at hF (k:=i) (by rw[hC.out];exact hI)
    cases e1
    exact h3
   have HA:=hid hm;have h9:=hid he;have Hn:=hid Hh;have Hq:=hid (hY.out.keep hm.old);have Hr:=hid (Hm.out.trans hm.old);clear hm Ht he Hh hF c0 c1 hb
   cases hf:ZD ⟨params,bl.map FBlk.d,pl⟩ (f::r) with
   | error m =>
    have he:=h9.out;rw[hf]at he;obtain⟨hB,Hj⟩:=he;have hE:(E==0)=false:=by rw[beq_eq_false_iff_ne,hB];exact Hj
    have hg:=Hn.out;rw[hf]at hg;have hG:=hid (ZaG hg);have HD:=hid hB;clear hf hB Hj hg;go_wp2_with fail
    refine Zb 10 rfl (by decide +kernel) (by decide +kernel) (by decide +kernel) (by decide)
     [Is (.slice (some ⟨b,off,none⟩) ln lc),Is (.int .i64 i),Is (.pointer (some ⟨b,off+i*2,none⟩)),Is (.pointer (some ⟨b,off+i*2+1,none⟩)),Is (.int .i64 xn),Is (.pointer (some ⟨pb,0,none⟩)),Is (.pointer (some ⟨pb,0,none⟩)),Is (.pointer (some ⟨pb,3,none⟩)),Is (.int .i64 E),Is (.agg #[.int .i64 0,.slice none 0 0,.int .i64 xn,.int .i64 E])]
     (by repeat (first | exact trivial | refine⟨Is.stable _,?_⟩ | refine⟨Any.stable,?_⟩)) ⟨?_,?_,?_,?_,?_,?_,?_,?_,?_,?_,trivial⟩ ?_
    rotate_right
    ·intro vs w8 hs hk;simp only[List.take,List.drop,putAll,Act.put,Zc,Zd,Is,List.setIfInBounds_toArray,List.set_cons_zero,List.set_cons_succ,Nat.reduceAdd]at hk ⊢;try simp only[hk]
     have Hl:=hid (Hq.out.keep hs);have Hy:=hid (Hr.out.trans hs);clear hs hk;go_wp2_with (refine wpList_store_row rfl 81 _ _ rfl w.heap.size #[.int .i64 0,.slice none 0 0,.int .i64 xn,.int .i64 E] rfl rfl 81 _ Hl.out (by kernel_rfl) rfl (by rw[←Array.all_toList];rfl) ?_)
     have ho:=zH ((⟨(⟨0,[],.slice none 0 0⟩:FnV).d,xn,E⟩:Xm)=Yu s.data.toList) (by rw[Js,←h7.out,hG.out,HD.out];rfl);have ha:HeapIs (w8.setRow w.heap.size #[.int .i64 0,.slice none 0 0,.int .i64 xn,.int .i64 E]) w.heap.size #[.int .i64 0,.slice none 0 0,.int .i64 xn,.int .i64 E] 81:=Ye Hl.out _;have hc:Since w (w8.setRow w.heap.size #[.int .i64 0,.slice none 0 0,.int .i64 xn,.int .i64 E]):=ZX Hy.out (Nat.le_refl _) _;have hl:Since w2 (w8.setRow w.heap.size #[.int .i64 0,.slice none 0 0,.int .i64 xn,.int .i64 E])∨True:=.inr trivial;have hd:FnIn (w8.setRow w.heap.size #[.int .i64 0,.slice none 0 0,.int .i64 xn,.int .i64 E]) ⟨0,[],.slice none 0 0⟩:=Jc _;generalize w8.setRow w.heap.size #[.int .i64 0,.slice none 0 0,.int .i64 xn,.int .i64 E]=w5 at *;have d0:=ha.cell 0;have d1:=ha.cell 1;have d2:=ha.cell 2;have d3:=ha.cell 3;have hT:=ha.lt;have hn:=hid hc;have hr:=hid hd;clear ha hc hl hd;go_wp2
     exact bodyPost_ret (v:=.agg #[.int .i64 0,.slice none 0 0,.int .i64 xn,.int .i64 E]) (by simp[results,Tryz.results32,go_sem,d0,d1,d2,d3]) rfl ⟨⟨0,[],.slice none 0 0⟩,xn,E,rfl,hr.out,ho.out,hn.out⟩
    all_goals
     intro vs w8 hs hk _;simp only[List.take,putAll,Act.put,Zh,Zd,Is,List.setIfInBounds_toArray,List.set_cons_zero,List.set_cons_succ,Nat.reduceAdd]at hk ⊢;try simp only[hk]
    iterate 4
     ·go_wp2
      exact⟨_,rfl,rfl,.refl _⟩
    ·have hz:=hs.cell (p:=⟨b,off+i*2+1,none⟩) Hk;rw[c1b]at hz;have Hv:=Nat.lt_of_lt_of_le Hk hs.size;go_wp2
     exact⟨_,rfl,rfl,.refl _⟩
    iterate 3
     ·go_wp2
      exact⟨_,rfl,rfl,.refl _⟩
    ·have hz:=hs.cell (p:=⟨pb,3,none⟩) hN;rw[c3]at hz;have Hv:=Nat.lt_of_lt_of_le hN hs.size;go_wp2
     exact⟨_,rfl,rfl,.refl _⟩
    ·go_wp2
     exact⟨_,rfl,rfl,.refl _⟩
   | ok t =>
    have he:=h9.out;rw[hf]at he;obtain⟨hB,ht⟩:=he;have hg:=Hn.out;rw[hf]at hg;subst ht;have HC:=hid (hh.out.step hf);have hG:=hid hg;subst hB;clear hf hg;go_wp2
    go_roundw
    case rel=>exact⟨i+1,params2,pl2,bv2,bl2,by go_num,by omega,HA.out,hG.out,HC.out⟩
    case measure=>simp[intOf];omega
  ·obtain rfl:ln=i:=by omega
   have hj:=h0.out;rw[List.take_of_length_le (by rw[List.length_map,hC.out];exact Nat.le_refl _),h7.out]at hj;have HR:=hid hj;have h2:=hid (Js s.data.toList);have c2:wr.cell? ⟨pb,2,none⟩=some (.int .i64 pl):=HP.out.cell 2;have c1:wr.cell? ⟨pb,1,none⟩=some bv:=HP.out.cell 1;have c0:wr.cell? ⟨pb,0,none⟩=some (.int .i64 params):=HP.out.cell 0;have hN:=HP.out.box.lt;obtain⟨va,vc,hv⟩:=Ze HP.out.row;obtain⟨bn,hW⟩:∃ n,bl.length=n:=⟨_,rfl⟩
   rw[hW]at hv;subst hv;have h8:=hid hW;have HJ:bn≤300001:=by have:=hh.out.bl;simp only[List.length_map]at this;omega
   clear hj hW;by_cases hH:pl=1
   ·subst hH;by_cases hX:bn=0
    ·subst hX;have HE:=hid (List.length_eq_zero_iff.1 h8.out);have ho:=zH ((⟨(⟨0,[],.slice none 0 0⟩:FnV).d,nn,70⟩:Xm)=Yu s.data.toList) (by rw[h2.out,HR.out,HE.out];simp[FnV.d,Ho.out]);go_wp2_with (refine wpList_store_row rfl 81 _ _ rfl w.heap.size #[.int .i64 0,.slice none 0 0,.int .i64 nn,.int .i64 70] rfl rfl 81 _ hu.out (by kernel_rfl) rfl (by rw[←Array.all_toList];rfl) ?_)
     have ha:HeapIs (wr.setRow w.heap.size #[.int .i64 0,.slice none 0 0,.int .i64 nn,.int .i64 70]) w.heap.size #[.int .i64 0,.slice none 0 0,.int .i64 nn,.int .i64 70] 81:=Ye hu.out _;have hc:Since w (wr.setRow w.heap.size #[.int .i64 0,.slice none 0 0,.int .i64 nn,.int .i64 70]):=ZX hZ.out (Nat.le_refl _) _;have hl:Since w2 (wr.setRow w.heap.size #[.int .i64 0,.slice none 0 0,.int .i64 nn,.int .i64 70])∨True:=.inr trivial;have hd:FnIn (wr.setRow w.heap.size #[.int .i64 0,.slice none 0 0,.int .i64 nn,.int .i64 70]) ⟨0,[],.slice none 0 0⟩:=Jc _;generalize wr.setRow w.heap.size #[.int .i64 0,.slice none 0 0,.int .i64 nn,.int .i64 70]=w5 at *;have d0:=ha.cell 0;have d1:=ha.cell 1;have d2:=ha.cell 2;have d3:=ha.cell 3;have hT:=ha.lt;have hn:=hid hc;have hr:=hid hd;clear ha hc hl hd;go_wp2
     exact bodyPost_ret (v:=.agg #[.int .i64 0,.slice none 0 0,.int .i64 nn,.int .i64 70]) (by simp[results,Tryz.results32,go_sem,d0,d1,d2,d3]) rfl ⟨⟨0,[],.slice none 0 0⟩,nn,70,rfl,hr.out,ho.out,hn.out⟩
    ·have HG:((bn:Int)==0)=false:=by rw[beq_eq_false_iff_ne];omega
     have ho:=hid (show (⟨(⟨params,bl,.slice va bn vc⟩:FnV).d,0,0⟩:Xm)=Yu s.data.toList from by
      have Hu:bl.map FBlk.d≠[]:=fun e=>by rw[List.map_eq_nil_iff]at e;rw[e]at h8;exact hX h8.out.symm
      rw[h2.out,HR.out];show _=(if (1:Int)=1∧bl.map FBlk.d≠[] then _ else _);rw[if_pos ⟨rfl,Hu⟩];rfl)
     clear hX;go_wp2_with (refine wpList_store_row rfl 81 _ _ rfl w.heap.size #[.int .i64 params,.slice va bn vc,.int .i64 0,.int .i64 0] rfl rfl 81 _ hu.out (by kernel_rfl) rfl (by rw[←Array.all_toList];rfl) ?_)
     have ha:HeapIs (wr.setRow w.heap.size #[.int .i64 params,.slice va bn vc,.int .i64 0,.int .i64 0]) w.heap.size #[.int .i64 params,.slice va bn vc,.int .i64 0,.int .i64 0] 81:=Ye hu.out _;have hc:Since w (wr.setRow w.heap.size #[.int .i64 params,.slice va bn vc,.int .i64 0,.int .i64 0]):=ZX hZ.out (Nat.le_refl _) _;have hl:Since w2 (wr.setRow w.heap.size #[.int .i64 params,.slice va bn vc,.int .i64 0,.int .i64 0])∨True:=.inr trivial;have hd:FnIn (wr.setRow w.heap.size #[.int .i64 params,.slice va bn vc,.int .i64 0,.int .i64 0]) ⟨params,bl,.slice va bn vc⟩:=HP.out.fnTurn (R:=fun q=>q=w.heap.size) (VG (S:=fun q=>q=w.heap.size) rfl _) (fun q hq=>by rw[hq];exact hY.out.lt);generalize wr.setRow w.heap.size #[.int .i64 params,.slice va bn vc,.int .i64 0,.int .i64 0]=w5 at *;have d0:=ha.cell 0;have d1:=ha.cell 1;have d2:=ha.cell 2;have d3:=ha.cell 3;have hT:=ha.lt;have hn:=hid hc;have hr:=hid hd
     clear ha hc hl hd;go_wp2
     exact bodyPost_ret (v:=.agg #[.int .i64 params,.slice va bn vc,.int .i64 0,.int .i64 0]) (by simp[results,Tryz.results32,go_sem,d0,d1,d2,d3]) rfl ⟨⟨params,bl,.slice va bn vc⟩,0,0,rfl,hr.out,ho.out,hn.out⟩
   ·have HF:(pl==1)=false:=by rw[beq_eq_false_iff_ne];exact hH
    have ho:=zH ((⟨(⟨0,[],.slice none 0 0⟩:FnV).d,nn,70⟩:Xm)=Yu s.data.toList) (by rw[h2.out,HR.out];simp only[];rw[if_neg (fun h=>hH h.1)];simp[FnV.d,Ho.out]);clear hH;go_wp2_with (refine wpList_store_row rfl 81 _ _ rfl w.heap.size #[.int .i64 0,.slice none 0 0,.int .i64 nn,.int .i64 70] rfl rfl 81 _ hu.out (by kernel_rfl) rfl (by rw[←Array.all_toList];rfl) ?_)
    have ha:HeapIs (wr.setRow w.heap.size #[.int .i64 0,.slice none 0 0,.int .i64 nn,.int .i64 70]) w.heap.size #[.int .i64 0,.slice none 0 0,.int .i64 nn,.int .i64 70] 81:=Ye hu.out _;have hc:Since w (wr.setRow w.heap.size #[.int .i64 0,.slice none 0 0,.int .i64 nn,.int .i64 70]):=ZX hZ.out (Nat.le_refl _) _;have hl:Since w2 (wr.setRow w.heap.size #[.int .i64 0,.slice none 0 0,.int .i64 nn,.int .i64 70])∨True:=.inr trivial;have hd:FnIn (wr.setRow w.heap.size #[.int .i64 0,.slice none 0 0,.int .i64 nn,.int .i64 70]) ⟨0,[],.slice none 0 0⟩:=Jc _;generalize wr.setRow w.heap.size #[.int .i64 0,.slice none 0 0,.int .i64 nn,.int .i64 70]=w5 at *;have d0:=ha.cell 0;have d1:=ha.cell 1;have d2:=ha.cell 2;have d3:=ha.cell 3;have hT:=ha.lt;have hn:=hid hc;have hr:=hid hd;clear ha hc hl hd;go_wp2
    exact bodyPost_ret (v:=.agg #[.int .i64 0,.slice none 0 0,.int .i64 nn,.int .i64 70]) (by simp[results,Tryz.results32,go_sem,d0,d1,d2,d3]) rfl ⟨⟨0,[],.slice none 0 0⟩,nn,70,rfl,hr.out,ho.out,hn.out⟩
def Xp (l:List Int):Prop:=(∀ x∈l,In32W x)∧l.length≤300001
structure ZfM (x:Zaq):Prop where
 op:In32W x.op
 dst:In32W x.dst
 two:In32W x.two
 args:Xp x.args
 imm:In32W x.imm
structure ZeF (t:Kt):Prop where
 kd:In32W t.kd
 ar:Xp t.ar
 tg:Xp t.tg
 imm:In32W t.im
structure Ku (b:Y1):Prop where
 phis:∀ p∈b.phis,In32W p.dst∧(∀ x∈p.ins,In32W x.1∧In32W x.2)∧p.ins.length≤300001
 ins:∀ i∈b.ins,ZfM i
 term:ZeF b.term
structure ZdH (s:PSt):Prop where
 params:In32W s.params
 blocks:∀ b∈s.blocks,Ku b
theorem YX:In32W 0:=⟨by decide,by decide⟩
theorem Zga (l:List ByteArray):∀ x∈numsW l,In32W x:=fun x hx=>by
 unfold numsW at hx;obtain⟨z,_,rfl⟩:=List.mem_map.1 hx;exact YH z
theorem Zak {l : List Int} (h:∀ x∈l,In32W x) (i:Nat):In32W (l.getD i 0):=by
 rw[List.getD_eq_getElem?_getD]
 cases hi:l[i]? with
 | none=>exact YX
 | some x=>exact h x (List.mem_of_getElem? hi)
theorem Xp.nil:Xp []:=⟨fun x h=>(by cases h),Nat.zero_le _⟩
theorem Xp.drop {l : List Int} (h:Xp l) (k:Nat):Xp (l.drop k):=⟨fun x hx=>h.1 x (List.mem_of_mem_drop hx),by rw[List.length_drop];have:=h.2;omega⟩
theorem Xp.take {l : List Int} (h:Xp l) (k:Nat):Xp (l.take k):=⟨fun x hx=>h.1 x (List.mem_of_mem_take hx),by rw[List.length_take];have:=h.2;omega⟩
theorem Zac {s : PSt} (h:∀ b∈s.blocks,Ku b) (g:Y1→Y1) (hg:∀ b,Ku b→Ku (g b)):∀ b∈onLast s g,Ku b:=fun b hb=>by
 rcases Jx _ _ _ hb with h1|⟨y,hy,rfl⟩
 ·exact h b h1
 ·exact hg y (h y hy)
theorem insOf3 (op:Int) (hb:1≤op∧op≤18) {n : List Int} (h:Xp n):ZfM (YF op n):=by
 have ha:In32W op:=⟨by omega,by omega⟩;have g:=fun i=>Zak h.1 i
 unfold YF;split
 ·exact⟨ha,g 0,YX,.nil,g 1⟩
 ·split
  ·exact⟨ha,g 0,YX,(h.drop 1).take 1,g 2⟩
  ·split
   ·exact⟨ha,YX,YX,h.take 2,g 2⟩
   ·split
    ·exact⟨ha,g 0,YX,h.drop 2,g 1⟩
    ·split
     ·exact⟨ha,g 0,g 1,h.drop 2,YX⟩
     ·exact⟨ha,g 0,YX,h.drop 1,YX⟩
theorem ZfS (k:Int) (hk:1≤k∧k≤5) {n : List Int} (h:Xp n):ZeF (YE k n):=by
 have ha:In32W k:=⟨by omega,by omega⟩;unfold YE;split
 ·exact⟨ha,.nil,h,YX⟩
 ·split
  ·exact⟨ha,h,.nil,YX⟩
  ·split
   ·exact⟨ha,.nil,.nil,Zak h.1 0⟩
   ·exact⟨ha,h.take 1,h.drop 1,YX⟩
theorem Zhb {s t:PSt} {l : List ByteArray} (h:ZdH s) (hl:l.length≤300001) (hs:ZD s l=.ok t):ZdH t:=by
 unfold ZD at hs;split at hs
 ·cases hs;exact h
 ·rename_i w r
  rw[List.length_cons]at hl;have hn:Xp (numsW r):=⟨Zga r,by unfold numsW;rw[List.length_map];omega⟩;split at hs
  ·split at hs
   ·split at hs
    ·cases hs;exact⟨Zak hn.1 0,h.blocks⟩
    ·cases hs
   ·cases hs
  ·split at hs
   ·split at hs
    ·split at hs
     ·split at hs
      ·cases hs
       refine⟨h.params,fun b hb=>?_⟩;rcases List.mem_append.1 hb with h1|h1
       ·exact h.blocks b h1
       ·rw[List.mem_singleton.1 h1];exact⟨fun p hp=>(by cases hp),fun i hi=>(by cases hi),⟨YX,.nil,.nil,YX⟩⟩
      ·cases hs
     ·cases hs
    ·cases hs
   ·split at hs
    ·split at hs
     ·unfold phiSt at hs;split at hs
      ·cases hs
      ·rename_i d r2
       split at hs
       ·split at hs
        ·cases hs
         refine⟨h.params,Zac h.blocks _ fun b hb=>⟨fun p hp=>?_,hb.ins,hb.term⟩⟩
         rcases List.mem_append.1 hp with h1|h1
         ·exact hb.phis p h1
         ·rw[List.mem_singleton.1 h1];refine⟨YH _,fun x hx=>?_,by show (r2.map Xy).length≤300001;rw[List.length_map];rw[List.length_cons]at hl;omega⟩;obtain⟨y,_,rfl⟩:=List.mem_map.1 hx;exact⟨YH _,YH _⟩
        ·cases hs
       ·cases hs
     ·cases hs
    ·split at hs
     ·rename_i hop
      split at hs
      ·unfold YZ at hs;split at hs
       ·split at hs
        ·cases hs
         refine⟨h.params,Zac h.blocks _ fun b hb=>⟨hb.phis,fun i hi=>?_,hb.term⟩⟩
         rcases List.mem_append.1 hi with h1|h1
         ·exact hb.ins i h1
         ·rw[List.mem_singleton.1 h1];exact insOf3 _ ⟨by omega,(JY w).2⟩ hn
        ·cases hs
       ·cases hs
      ·cases hs
     ·split at hs
      ·rename_i hk
       split at hs
       ·unfold YD at hs;split at hs
        ·split at hs
         ·cases hs
          exact⟨h.params,Zac h.blocks _ fun b hb=>⟨hb.phis,hb.ins,ZfS _ ⟨by omega,(Zah w).2⟩ hn⟩⟩
         ·cases hs
        ·cases hs
       ·cases hs
      ·cases hs
theorem ZgJ:∀ (D:List (List ByteArray × Int)) (n:Nat) (s t:PSt),(∀ x∈D,x.1.length≤300001)→ZdH s→FewSt n s→YK ZD s D=.ok t→ZdH t∧FewSt (n+D.length) t
 | [],n,s,t,_,h,hf,hr=>by
  rw[YK]at hr;cases hr;exact⟨h,hf⟩
 | x::r,n,s,t,hx,h,hf,hr=>by
  rw[YK]at hr
  cases hs:ZD s x.1 with
  | error e=>rw[hs]at hr;cases hr
  | ok u =>
   rw[hs]at hr
   have:=ZgJ r (n+1) u t (fun y hy=>hx y (by simp[hy])) (Zhb h (hx x (by simp)) hs) (hf.step hs) hr
   rw[List.length_cons]
   exact⟨this.1,by have h2:=this.2;rwa [show n+1+r.length=n+(r.length+1) from by omega]at h2⟩
structure JK (f:DFn):Prop where
 params:In32W f.params
 blocks:∀ b∈f.blocks,Ku b
 many:f.blocks.length≤300001
 each:∀ b∈f.blocks,b.phis.length≤300001∧b.ins.length≤300001
theorem ZcF (s:Bs) (hs:s.length≤300000):JK (Yu s).f:=by
 rw[Js];have h0:JK ⟨0,[]⟩:=⟨YX,fun b hb=>(by cases hb),Nat.zero_le _,fun b hb=>(by cases hb)⟩
 cases hr:YK ZD ⟨0,[],0⟩ (numd 1 (linesOf s)) with
 | error e=>exact h0
 | ok t =>
  show JK (if t.pl=1∧t.blocks≠[] then (⟨⟨t.params,t.blocks⟩,0,0⟩:Xm) else ⟨⟨0,[]⟩,((linesOf s).length:Int),70⟩).f
  split
  ·obtain⟨h1,h2⟩:=ZgJ _ 0 _ t (fun x hx=>by
    have h3:=Ju (linesOf s) 1 x hx;have h4:=KK s x.1 h3.1;omega) ⟨YX,fun b hb=>(by cases hb)⟩ FewSt.start hr
   have h5:=Jv (linesOf s) 1;have h6:=W4 s;exact⟨h1.params,h1.blocks,(by have:=h2.bl;show t.blocks.length≤300001;omega),fun b hb=>(by have:=h2.each b hb;show b.phis.length≤300001∧b.ins.length≤300001;omega)⟩
  ·exact h0
theorem QF (f:FnV) (h:JK f.d):Fn3 f:=by
 have ha:∀ l:List Int,Xp l→ZdE l:=fun l hl=>⟨fun x hx=>YN (hl.1 x hx),by have:=hl.2;omega⟩
 refine⟨YN h.params,fun b hb=>?_⟩;have hc:=h.blocks b.d (List.mem_map_of_mem hb);refine⟨fun p hp=>?_,fun i hi=>?_,?_⟩
 ·obtain⟨h1,h2,_⟩:=hc.phis p.d (List.mem_map_of_mem hp);exact⟨YN h1,fun x hx=>⟨YN (h2 x hx).1,YN (h2 x hx).2⟩⟩
 ·have h1:=hc.ins i.d (List.mem_map_of_mem hi);exact⟨YN h1.op,YN h1.dst,YN h1.two,ha _ h1.args,h1.imm⟩
 ·have h1:=hc.term;exact⟨YN h1.kd,ha _ h1.ar,ha _ h1.tg,h1.imm⟩
theorem WG {α:Type} (f:α→Bs) (k:Nat):∀ (l:List α),(∀ x∈l,(f x).length≤k)→(l.flatMap f).length≤l.length*k
 | [],_=>by simp
 | x::r,h=>by
  rw[List.flatMap_cons,List.length_append,List.length_cons,Nat.succ_mul]
  have:=h x (by simp)
  have:=WG f k r (fun y hy=>h y (by simp[hy]))
  omega
theorem W6 {x : Int} (h:In32W x):(d3 x).length≤22:=Xt x (YN h)
theorem Jp {l : List Int} (h:Xp l):(Wx l).length≤6600024:=by
 have h1:=Wr l (fun x hx=>YN (h.1 x hx))
 have:=h.2;unfold Wx;simp only[List.length_cons,List.length_append,List.length_nil];omega
theorem Qv (f:DFn) (h:JK f):(VH f).length≤4000000000000000000:=by
 have hb:∀ b∈f.blocks,(bl3 b).length≤6100000000000:=fun b hb=>by
  have h1:=h.blocks b hb;have h2:=h.each b hb;have e1:(b.phis.flatMap Xi).length≤b.phis.length*13500100:=WG Xi _ _ fun p hp=>by
   obtain⟨g1,g2,g3⟩:=h1.phis p hp;have g4:(p.ins.flatMap pair3).length≤p.ins.length*45:=WG pair3 _ _ fun x hx=>by
    have:=W6 (g2 x hx).1;have:=W6 (g2 x hx).2;unfold pair3;simp only[List.length_append,List.length_cons];omega
   have:=W6 g1;unfold Xi;simp only[List.length_append,List.length_cons,List.length_nil];omega
  have e2:(b.ins.flatMap in3).length≤b.ins.length*6600200:=WG in3 _ _ fun i hi=>by
   have g:=h1.ins i hi;have:=W6 g.op;have:=W6 g.dst;have:=W6 g.two;have:=W6 g.imm;have:=Jp g.args;unfold in3;simp only[List.length_append,List.length_cons];omega
  have e3:(tm3 b.term).length≤13300000:=by
   have:=W6 h1.term.kd;have:=W6 h1.term.imm;have:=Jp h1.term.ar;have:=Jp h1.term.tg;unfold tm3;simp only[List.length_append,List.length_cons];omega
  unfold bl3;simp only[List.length_append,List.length_cons];omega
 have h1:(f.blocks.flatMap bl3).length≤f.blocks.length*6100000000000:=WG bl3 _ _ hb;have h2:=W6 h.params;have h3:=h.many;unfold VH;rw[List.length_append];omega
end Go.Proofs.YtmhojfpidedjeaaGreatDoor
