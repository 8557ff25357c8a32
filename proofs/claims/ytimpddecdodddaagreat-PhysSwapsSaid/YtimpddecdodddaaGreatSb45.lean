import Derived.Test.YtimpddecdodddaaGreatSb44
namespace Go.Proofs.YtimpddecdodddaaGreat
open Go.RowKit Go.Lib
set_option linter.unusedVariables false
set_option maxHeartbeats 8000000
set_option maxRecDepth 1000000
def psum7 (l:List ZC):Nat:=(l.map fun b=>b.phis.length).sum
theorem Kj {l : List ZC} {j : Nat} {b : ZC} (h:l[j]? = some b):psum7 (l.take (j+1))=psum7 (l.take j)+b.phis.length:=by
 unfold psum7;exact jO
theorem Ki (l:List ZC) (j:Nat):psum7 (l.take j)≤psum7 l:=by
 unfold psum7
 exact yU
theorem ZbG {l : List ZC} (h:∀ b∈l,b.phis.length≤3):psum7 l≤3*l.length:=by
 induction l with
 | nil=>exact Nat.le_refl _
 | cons b r ih =>
  have h1:=h b List.mem_cons_self;have h2:=ih fun x hx=>h x (List.mem_cons_of_mem _ hx)
  unfold psum7 at h2 ⊢;rw[List.map_cons,List.sum_cons,List.length_cons];omega
def owl (top:Int) (bs:List ZC) (i:Nat):List Int:=(List.range i).map fun j=>top+(psum7 (bs.take j):Int)
theorem ZcE (top:Int) (bs:List ZC) (i:Nat):owl top bs (i+1)=owl top bs i++[top+(psum7 (bs.take i):Int)]:=by unfold owl;rw[List.range_succ,List.map_append];rfl
theorem Jw (top:Int) (bs:List ZC) (i:Nat):(owl top bs i).length=i:=by unfold owl;simp
theorem Zeh (top:Int) (bs:List ZC) {i j:Nat} (h:j<i):(owl top bs i)[j]? = some (top+(psum7 (bs.take j):Int)):=by
 unfold owl;rw[List.getElem?_map,List.getElem?_range h];rfl
structure NvH (w0:World) (mq rq pq:Nat) (params kk:Int) (BB boff n bc:Nat) (i:Nat) (os:List Int) (v:Value) (w:World):Prop where
 mbox:HeapIs w mq #[.int .i64 params,.slice (some ⟨BB,boff,none⟩) n bc] 101
 out:HeapIs w pq #[.int .i64 params,.int .i64 kk,.int .i64 0,.slice none 0 0] 27
 res:HeapIs w rq #[.int .i64 0,.int .i64 0,.int .i64 0,.slice none 0 0] 27
 own:w.ownsRow w0.heap.size 3 1 v i (os.map (Value.int .i64))
 len:os.length=i
 old:Since w0 w
theorem NvH.keep {w0 w w2:World} {mq rq pq BB boff n bc i:Nat} {params kk:Int} {os:List Int} {v : Value} (h:NvH w0 mq rq pq params kk BB boff n bc i os v w) (s:Since w w2):NvH w0 mq rq pq params kk BB boff n bc i os v w2:=
 ⟨h.mbox.keep s,h.out.keep s,h.res.keep s,Zs h.own s,h.len,h.old.trans s⟩
theorem NvH.next {w0 w w2:World} {mq rq pq BB boff n bc i:Nat} {params kk x:Int} {os:List Int} {v v':Value} (h:NvH w0 mq rq pq params kk BB boff n bc i os v w) (ha:w2.ownsRow w0.heap.size 3 1 v' (i+1) ((os++[x]).map (Value.int .i64))) (t:Turn (fun q=>v.ownBlock=some q) w w2):NvH w0 mq rq pq params kk BB boff n bc (i+1) (os++[x]) v' w2:=by
 have k:=Kin.row h.own;exact⟨h.mbox.turn t (k.heap h.mbox kS),h.out.turn t (k.heap h.out kS),h.res.turn t (k.heap h.res kS),ha,by rw[List.length_append,h.len];rfl,t.toSince h.old fun q hq e=>by have:=(World.ownsRow.lt h.own q e).1;omega⟩
structure YF (B:Nat) (w:World) (p:Z2):Prop where
 params:0≤p.params∧p.params≤4∧p.params≤p.slots
 slots:p.slots≤16000
 blocks:1≤p.blocks.length∧p.blocks.length≤9
 row:OwnRow blcells 6 34 B w p.bv p.blocks
 each:∀ x∈p.blocks,BlkNew B p.slots p.blocks.length w x
 total:ptotal p.blocks≤40000
theorem YF.keep {B : Nat} {w w':World} {p : Z2} (h:YF B w p) (s:Since w w'):YF B w' p:=⟨h.params,h.slots,h.blocks,h.row.keep s,fun x hx=>(h.each x hx).keep s,h.total⟩
theorem YF.low {B B':Nat} {w : World} {p : Z2} (h:YF B w p) (hb:B'≤B):YF B' w p:=⟨h.params,h.slots,h.blocks,Vw h.row hb,fun x hx=>(h.each x hx).low hb,h.total⟩
theorem YF.turn {B : Nat} {w w':World} {p : Z2} {T : Nat→Prop} {U : TypeId} (h:YF B w p) (t:Turn T w w') (k:Kin w U T) (h0:34≠U) (h1:38≠U) (h2:3≠U):YF B w' p:=⟨h.params,h.slots,h.blocks,Zj h.row t (k.apart h.row h0),fun x hx=>(h.each x hx).turn t k h1 h2,h.total⟩
theorem ZaU {bl:List ZD} {b : ZD} (h:b∈bl):b.ins.length≤ptotal bl:=by
 unfold ptotal;have h2:=Xs (List.mem_map.2 ⟨b,h,rfl⟩:b.ins.length∈bl.map fun b=>b.ins.length);omega
theorem YF.ok {B : Nat} {w : World} {p : Z2} (h:YF B w p):Xu w p:=by
 refine⟨Yl YE h.row fun b hb=>?_,by have:=h.blocks;omega⟩;have h1:=h.each b hb;refine⟨Yl ZE h1.ins fun y hy=>?_,ZF h1.goals,by have:=ZaU hb;have:=h.total;omega⟩;have h2:=h1.each y hy;exact⟨ZF h2.args,h2.good.fine,fun q hq=>(World.ownsRow.lt h2.args q hq).2⟩
theorem YF.right {B : Nat} {w : World} {p : Z2} (h:YF B w p) (hk:4≤p.k∧p.k≤16):rightB p=true:=
 WX ⟨h.params.1,h.params.2.1⟩ hk ⟨by have:=h.params;omega,by have:=h.slots;omega⟩ ⟨h.blocks.1,by have:=h.blocks;omega⟩ (by have:=h.total;omega) fun b hb=>⟨fun x hx=>((h.each b hb).each x hx).good,(h.each b hb).fin⟩
theorem Zap (g:Vb) (kk:Int) (w:World) (h:Vo w g) (hg:QH g) :
  Calls Tryz.prog 50 #[mfv g,.int .i64 kk] w (fun e w'=>∃ p:Z2,e=.returned (pv p)∧p.k=kk∧YF w.heap.size w' p∧Since w w'):=by
 obtain⟨params,bs,bv⟩:=g;obtain⟨n,hl⟩:∃ n,bs.length=n:=⟨_,rfl⟩
 have hW:1≤n∧n≤9:=by rw[←hl];exact hg.blocks
 obtain⟨BB,boff,bc,rfl⟩:∃ BB boff bc,bv=.slice (some ⟨BB,boff,none⟩) n bc:=by
  rcases (show RowIn mbcells 7 MBlkIn w bv bs from h) with ⟨a,_,h2⟩|⟨B,off,cap,h1,_⟩
  ·rw[h2]at hl;simp at hl;omega
  ·exact⟨B,off,cap,by rw[h1,hl]⟩
 have hD:0≤params∧params≤4:=hg.params;have HG:=hid hg;have hI:=zH (RowIn mbcells 7 MBlkIn w (.slice (some ⟨BB,boff,none⟩) n bc) bs) h;have hm:=hid hl;have Hp:=hid (show psum7 bs≤27 from by
  have h1:=ZbG (l:=bs) fun b hb=>(hg.each b hb).few
  omega)
 clear h hg hl;unfold mfv;dsimp only;go_enter Tryz.func50,Tryz.ntmps50
 go_upto_region 1 with fail
 obtain⟨mq,hM⟩:∃ z,z=w.heap.size:=⟨_,rfl⟩
 obtain⟨rq,hC⟩:∃ z,z=w.heap.size+1:=⟨_,rfl⟩
 obtain⟨w1,hh⟩:∃ z,z=(w.alloc (.cells #[.int .i64 params,.slice (some ⟨BB,boff,none⟩) n bc] 101)).alloc (.cells #[.int .i64 0,.int .i64 0,.int .i64 0,.slice none 0 0] 27):=⟨_,rfl⟩
 have hQ:=zH (HeapIs w1 mq #[.int .i64 params,.slice (some ⟨BB,boff,none⟩) n bc] 101) (by rw[hh,hM];exact (HeapIs.new _ _ _).keep ((Since.refl _).alloc _))
 have h7:=zH (HeapIs w1 rq #[.int .i64 0,.int .i64 0,.int .i64 0,.slice none 0 0] 27) (by rw[hh,hC];exact Jf _ _ _ _);have h6:=zH (Since w w1) (by rw[hh];exact ((Since.refl w).alloc _).alloc _)
 have h5:=zH (rq=w.heap.size+1∧w1.heap.size=w.heap.size+2) ⟨hC,by rw[hh];simp⟩;rw[←hh,←hC,←hM];clear hh hC hM;go_wp2_with (refine wpList_load_row rfl _ _ rfl mq rfl 101 _ (0,0) _ hQ.out Tryz.underlying101 rfl kO ?_)
 refine (Zbs ⟨params,bs,.slice (some ⟨BB,boff,none⟩) n bc⟩ w1 (Vo.keep hI.out h6.out) HG.out).mono ?_;rintro e w2 ⟨top,rfl,Hc,hw,ht⟩;have Hq:=hid hw;have Hm:=hid (h6.out.trans ht);have hP:=hid (hQ.out.keep ht);have Hn:=hid (h7.out.keep ht);have h4:=zH (w.heap.size+2≤w2.heap.size) (by have:=h5.out;have:=ht.size;omega);have Hl:=hP.out.cell 0;have hE:=hP.out.lt;dsimp only at Hc;clear hw ht hQ h7;go_upto_region 3 with fail
 clear Hl hE;obtain⟨pq,hL⟩:∃ z,z=w2.heap.size:=⟨_,rfl⟩
 obtain⟨w3,hA⟩:∃ z,z=w2.alloc (.cells #[.int .i64 params,.int .i64 kk,.int .i64 0,.slice none 0 0] 27):=⟨_,rfl⟩
 have Hg:=zH (HeapIs w3 pq #[.int .i64 params,.int .i64 kk,.int .i64 0,.slice none 0 0] 27) (by rw[hA,hL];exact HeapIs.new _ _ _);have hF:=zH (Since w2 w3) (by rw[hA];exact (Since.refl _).alloc _)
 have ho:=zH (w.heap.size≤pq∧w.heap.size≤rq∧rq≠pq) (by have:=h4.out;have:=h5.out;omega);rw[←hA,←hL];clear hA hL;go_wp2_with fail
 go_loopw [7,8,9] (fun ov nv iv wr=>∃ (i:Nat) (v:Value) (nk:Int),ov=v∧nv=.int .i64 nk∧iv=.int .i64 i∧i≤n∧nk=top+(psum7 (bs.take i):Int)∧NvH w mq rq pq params kk BB boff n bc i (owl top bs i) v wr) (fun _ _ iv _=>n-(intOf iv).toNat)
 case atStart=>exact⟨0,_,top,rfl,rfl,rfl,Nat.zero_le _,by simp[psum7],(hP.out.keep hF.out).keep ((Since.refl _).alloc _),Hg.out.keep ((Since.refl _).alloc _),(Hn.out.keep hF.out).keep ((Since.refl _).alloc _),⟨rfl,.inr ⟨_,0,#[],rfl,by have:=h4.out;have:=hF.out.size;omega,ZV _ _,by simp,by unfold maxLen;omega,by simp,by simp[owl]⟩⟩,rfl,(Hm.out.trans hF.out).trans ((Since.refl _).alloc _)⟩
 case round =>
  obtain⟨i,v,nk,rfl,rfl,rfl,hi,hV,hc⟩:=hrel;obtain⟨va,vc,hv⟩:=Zf hc.own;subst hv;have ha:=hid hc;have hn:=hid hV;have Hi:=Ki bs i;have Hs:0≤nk∧nk≤10027:=by have:=Hp.out;omega
  have hX:=hc.mbox.cell 1;have hE:=hc.mbox.lt;clear hc hV Hi;by_cases hY:i<n
  ·obtain⟨B1,o1,y,he,hB,hy,hN,hJ⟩:=RowIn.at (RowIn.keep MBlkIn.keep hI.out ha.out.old) (show i<bs.length by rw[hm.out];exact hY)
   cases he
   have h8:=hid hy;have Hf:=(HG.out.each y (List.mem_of_getElem? hy)).few;obtain⟨pa,pc,hK,_⟩:=RowIn.shape (show RowIn fpcells 2 YD wr y.phv y.phis from hJ.1);obtain⟨pl,hk⟩:∃ z,y.phis.length=z:=⟨_,rfl⟩
   rw[hk]at hK Hf;have Ho:=hid hk;have Hr:=hid (fun (w5:World) (hs:Since w w5)=>show w5.cell? ⟨BB,boff+i*7,none⟩=some (.slice pa pl pc)∧BB<w5.heap.size from by
    obtain⟨B1,o1,y2,he,hB,hS,hN,_⟩:=RowIn.at (RowIn.keep MBlkIn.keep hI.out hs) (show i<bs.length by rw[hm.out];exact hY)
    cases he
    rw[h8.out]at hS
    cases hS
    exact⟨by rw[←hK];exact hN 0 kS,hB⟩)
   have K1:=zH ((wr.alloc (.cells #[.int .i64 nk] 3)).ownsRow w.heap.size 3 1 (.slice va i vc) (owl top bs i).length ((owl top bs i).map (Value.int .i64))) (by rw[Jw];exact Zs ha.out.own ((Since.refl _).alloc _))
   have K2:=zH ((owl top bs i).length + [nk].length≤1000000) (by rw[Jw];simp;omega);have K3:=zH (w.heap.size≤(wr.alloc (.cells #[.int .i64 nk] 3)).heap.size) (by have:=ha.out.old.size;simp;omega);clear hy hN hJ hK hk hB;go_upto_region 9 with (refine Zo (base:=w.heap.size) .i64 rfl _ _ 22 rfl 3 (.int .i64 0) 8 Tryz.underlying22 Tryz.info3 rfl kS (.slice va i vc) _ (owl top bs i) [nk] rfl rfl K1.out (Yq _ _ _) K2.out K3.out ?_;intro v6 w6 hd hT hR;rw[List.length_append,Jw]at hd;have hH:=hid ((ha.out.keep ((Since.refl _).alloc _)).next hd hT);obtain⟨v6a,v6c,Hh⟩:=Zf hd;subst Hh;clear hd hT hR)
   have hX:=hH.out.mbox.cell 1;have hE:=hH.out.mbox.lt;obtain⟨HD,HC⟩:=Hr.out w6 hH.out.old;go_wp2_with fail
   go_roundw
   case rel=>exact⟨i+1,_,nk+pl,by trivial,by trivial,by go_num,kT,by rw[Kj h8.out,Ho.out,hn.out];push_cast;omega,by rw[ZcE,←hn.out];exact hH.out⟩
   case measure=>simp[intOf];omega
  ·obtain rfl:n=i:=kT
   have Ha:=zH (bs.take n=bs) (by rw[←hm.out];exact List.take_length);rw[Ha.out]at hn;have hk:=ha.out.out.lt;have Hj:=ha.out.out.frozen;have hU:=ha.out.out.cell 2;go_upto_block 2 with fail
   clear hk Hj hU hX hE;obtain⟨oc,Hk⟩:∃ z,z=vc:=⟨_,rfl⟩
   subst Hk;obtain⟨OB,ooff,rfl⟩:∃ OB ooff,va=some ⟨OB,ooff,none⟩:=by
    have h9:=ha.out.own;obtain⟨_,⟨h1,h2⟩|⟨g,c,u,h1,_⟩⟩:=h9
    ·omega
    ·cases h1;exact⟨_,_,rfl⟩
   obtain⟨w5,hz⟩:∃ z,z=wr.setCell ⟨pq,2,none⟩ (.int .i64 nk):=⟨_,rfl⟩
   have t5:Turn (fun q=>q=pq) wr w5:=by rw[hz];exact (Turn.refl (fun q=>q=pq) wr).setCell (p:=⟨pq,2,none⟩) rfl _
   have hc:NvS w mq rq pq params kk nk bs BB boff n bc OB ooff oc (owl top bs n) 0 [] (.slice none 0 0) w5:=by
    have k:=Kin.box ha.out.out;refine⟨ha.out.mbox.turn t5 (k.heap ha.out.mbox kS),by rw[hz];exact ha.out.out.set 2 _,ha.out.res.turn t5 ho.out.2.2,⟨n,Zj ha.out.own t5 (k.apart ha.out.own kS),Jw _ _ _⟩,t5.toSince ha.out.old (fun q hq e=>by have:=ho.out;omega),ho.out,OwnRow.nil _ _ _ _ _,fun x hx=>kR,rfl,Nat.zero_le _⟩
   have hG:NvG params nk bs n (owl top bs n):=by
    refine⟨hm.out,hW,⟨hD.1,hD.2,by have:=hn.out;omega⟩,kT,fun b hb=>⟨?_,?_,?_⟩,fun j b hb=>?_⟩
    ·have h9:=HG.out.each b hb;rw[show (⟨params,bs,.slice (some ⟨BB,boff,none⟩) n bc⟩:Vb).blocks.length=n from hm.out]at h9;exact h9
    ·exact (Hq.out b hb).mono (by have:=hn.out;omega)
    ·have h1:Xn bs≤3600:=HG.out.total;have h2:=Xs (List.mem_map.2 ⟨b,hb,rfl⟩:b.ins.length∈bs.map fun b=>b.ins.length);unfold Xn at h1;omega
    ·have hj:j<n:=by have h9:=(List.getElem?_eq_some_iff.1 hb).1;rw[hm.out]at h9;exact h9
     refine⟨_,Zeh top bs hj,kT,?_⟩;have h1:=Kj hb;have h2:=Ki bs (j+1);have h3:=hn.out;omega
   rw[←hz];have hO:=hid hc;have Hb:=hid hG;clear hz t5 hc hG;refine ZbP w mq rq pq params kk nk bs BB boff n bc OB ooff oc (owl top bs n) _ _ _ (ZI rfl rfl (Za rfl (Za rfl (Za rfl (Za rfl (Za rfl (Zh _))))))) hI.out Hb.out hO.out ?_;clear hO ha;intro a1 w7 bks bkv hf hc;obtain⟨u,h0,hu⟩:=ZH hf;obtain⟨g1,g2,s2,s4,s6,s7,g3⟩:=hf;have e2:=hu 2 _ s2;have e4:=hu 4 _ s4;have e6:=hu 6 _ s6;have e7:=hu 7 _ s7;rw[e2,e4,e6,e7]at h0;subst h0;clear hu g1 g2 g3 e2 s2 e4 s4 e6 s6 e7 s7;obtain⟨ba,bc2,hZ⟩:=OwnRow.shape hc.row;rw[hc.len]at hZ;subst hZ;have ha:=hid hc;have hp:=hc.out;have hk:=hp.lt;have HB:=hp.cell 0;have HA:=hp.cell 1;have hU:=hp.cell 2;have Hz:=hp.cell 3;have hr:=hc.res;have Ht:=hr.lt;have Hu:=hr.frozen;have Hy:=hr.cell 0;have Hx:=hr.cell 1;have Hw:=hr.cell 2;have Hv:=hr.cell 3;clear hc hp hr;go_wp2_with fail
   have He:=(((ha.out.res.set 0 (.int .i64 params)).set 1 (.int .i64 kk)).set 2 (.int .i64 nk)).set 3 (.slice ba n bc2);try simp only[Exit.inBlock,Exit.then]
   refine bodyPost_ret (results_cell_row rfl _ _ rq 27 #[.int .i64 params,.int .i64 kk,.int .i64 nk,.slice ba n bc2] (0,0) _ rfl He Tryz.underlying27 rfl kO) rfl ?_;have t:Turn (fun q=>q=rq) w7 ((((w7.setCell ⟨rq,0,none⟩ (.int .i64 params)).setCell ⟨rq,1,none⟩ (.int .i64 kk)).setCell ⟨rq,2,none⟩ (.int .i64 nk)).setCell ⟨rq,3,none⟩ (.slice ba n bc2)):=((((Turn.refl (fun q=>q=rq) w7).setCell (p:=⟨rq,0,none⟩) rfl _).setCell (p:=⟨rq,1,none⟩) rfl _).setCell (p:=⟨rq,2,none⟩) rfl _).setCell (p:=⟨rq,3,none⟩) rfl _;have k:=Kin.box ha.out.res;refine⟨⟨params,kk,nk,bks,.slice ba n bc2⟩,rfl,rfl,⟨⟨hD.1,hD.2,by show params≤nk;have:=Hb.out.pa;omega⟩,by show nk≤16000;omega,by show 1≤bks.length∧bks.length≤9;rw[ha.out.len];exact hW,Zj ha.out.row t (k.apart (show w7.ownsRow _ _ _ _ _ _ from ha.out.row) kS),fun x hx=>?_,?_⟩,t.toSince ha.out.old fun q hq e=>by have:=ho.out;omega⟩
   ·show BlkNew w.heap.size nk bks.length _ x
    rw[ha.out.len];exact (ha.out.each x hx).turn t k kS kS
   ·show ptotal bks≤40000
    have h1:=ha.out.total;rw[Ha.out]at h1;have h2:Xn bs≤3600:=HG.out.total;have h3:=ha.out.len;unfold ptotal;unfold insSum at h1;omega
end Go.Proofs.YtimpddecdodddaaGreat
