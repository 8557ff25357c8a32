/- jacquardref12.Naive: the function. -/
import Derived.Test.YtkpbmbhejpmboaaPkB38
namespace Go.Proofs.Ytkpbmbhejpmboaa
open Go.RowKit
set_option linter.unusedVariables false
def psum7 (l:List MBlkV):Nat:=(l.map fun b=>b.phis.length).sum
theorem psum7_succ {l : List MBlkV} {j : Nat} {b : MBlkV} (h:l[j]? = some b):psum7 (l.take (j+1))=psum7 (l.take j)+b.phis.length:=by
 unfold psum7;rw[List.take_add_one,h];simp
theorem psum7_take (l:List MBlkV) (j:Nat):psum7 (l.take j)≤psum7 l:=by
 unfold psum7
 conv=>rhs;rw[←List.take_append_drop j l,List.map_append,List.sum_append]
 omega
theorem psum7_few {l : List MBlkV} (h:∀ b∈l,b.phis.length≤3):psum7 l≤3*l.length:=by
 induction l with
 | nil=>exact Nat.le_refl _
 | cons b r ih =>
  have h1:=h b List.mem_cons_self
  have h2:=ih fun x hx=>h x (List.mem_cons_of_mem _ hx)
  unfold psum7 at h2 ⊢
  rw[List.map_cons,List.sum_cons,List.length_cons]
  omega
def owl (top:Int) (bs:List MBlkV) (i:Nat):List Int:=(List.range i).map fun j=>top+(psum7 (bs.take j):Int)
theorem owl_succ (top:Int) (bs:List MBlkV) (i:Nat):owl top bs (i+1)=owl top bs i++[top+(psum7 (bs.take i):Int)]:=by unfold owl;rw[List.range_succ,List.map_append];rfl
theorem owl_len (top:Int) (bs:List MBlkV) (i:Nat):(owl top bs i).length=i:=by unfold owl;simp
theorem owl_at (top:Int) (bs:List MBlkV) {i j:Nat} (h:j<i):(owl top bs i)[j]? = some (top+(psum7 (bs.take j):Int)):=by
 unfold owl
 rw[List.getElem?_map,List.getElem?_range h]
 rfl
structure NvH (w0:World) (mq rq pq:Nat) (params kk:Int) (BB boff n bc:Nat) (i:Nat) (os:List Int) (v:Value) (w:World):Prop where
 mbox:HeapIs w mq #[.int .i64 params,.slice (some ⟨BB,boff,none⟩) n bc] 105
 out:HeapIs w pq #[.int .i64 params,.int .i64 kk,.int .i64 0,.slice none 0 0] 24
 res:HeapIs w rq #[.int .i64 0,.int .i64 0,.int .i64 0,.slice none 0 0] 24
 own:w.ownsRow w0.heap.size 3 1 v i (os.map (Value.int .i64))
 len:os.length=i
 old:Since w0 w
theorem NvH.keep {w0 w w2:World} {mq rq pq BB boff n bc i:Nat} {params kk:Int} {os:List Int} {v : Value} (h:NvH w0 mq rq pq params kk BB boff n bc i os v w) (s:Since w w2):NvH w0 mq rq pq params kk BB boff n bc i os v w2:=
 ⟨h.mbox.keep s,h.out.keep s,h.res.keep s,own_keep h.own s,h.len,h.old.trans s⟩
theorem NvH.next {w0 w w2:World} {mq rq pq BB boff n bc i:Nat} {params kk x:Int} {os:List Int} {v v':Value} (h:NvH w0 mq rq pq params kk BB boff n bc i os v w) (hown:w2.ownsRow w0.heap.size 3 1 v' (i+1) ((os++[x]).map (Value.int .i64))) (t:Turn (fun q=>v.ownBlock=some q) w w2):NvH w0 mq rq pq params kk BB boff n bc (i+1) (os++[x]) v' w2:=by
 have k:=Kin.row h.own
 exact⟨h.mbox.turn t (k.heap h.mbox (by decide)),h.out.turn t (k.heap h.out (by decide)),h.res.turn t (k.heap h.res (by decide)),hown,by rw[List.length_append,h.len];rfl,t.toSince h.old fun q hq e=>by have:=(World.ownsRow.lt h.own q e).1;omega⟩
structure MadeP (B:Nat) (w:World) (p:PrgV):Prop where
 params:0≤p.params∧p.params≤4∧p.params≤p.slots
 slots:p.slots≤16000
 blocks:1≤p.blocks.length∧p.blocks.length≤9
 row:OwnRow blcells 6 56 B w p.bv p.blocks
 each:∀ x∈p.blocks,BlkNew B p.slots p.blocks.length w x
 total:ptotal p.blocks≤40000
theorem MadeP.low {B B':Nat} {w : World} {p : PrgV} (h:MadeP B w p) (hb:B'≤B):MadeP B' w p:=⟨h.params,h.slots,h.blocks,own_low h.row hb,fun x hx=>(h.each x hx).low hb,h.total⟩
theorem MadeP.turn {B : Nat} {w w':World} {p : PrgV} {T : Nat→Prop} {U : TypeId} (h:MadeP B w p) (t:Turn T w w') (k:Kin w U T) (h0:56≠U) (h1:58≠U) (h2:3≠U):MadeP B w' p:=⟨h.params,h.slots,h.blocks,own_turn h.row t (k.apart h.row h0),fun x hx=>(h.each x hx).turn t k h1 h2,h.total⟩
theorem ptotal_mem {bl:List BlkV} {b : BlkV} (h:b∈bl):b.ins.length≤ptotal bl:=by
 unfold ptotal
 have h2:=mem_le_sum (List.mem_map.2 ⟨b,h,rfl⟩:b.ins.length∈bl.map fun b=>b.ins.length)
 omega
theorem MadeP.ok {B : Nat} {w : World} {p : PrgV} (h:MadeP B w p):PrgOk w p:=by
 refine⟨row_own_in blcells_len h.row fun b hb=>?_,by have:=h.blocks;omega⟩
 have h1:=h.each b hb
 refine⟨row_own_in plcells_len h1.ins fun y hy=>?_,nums_of_own h1.goals,by have:=ptotal_mem hb;have:=h.total;omega⟩
 have h2:=h1.each y hy
 exact⟨nums_of_own h2.args,h2.good.fine,fun q hq=>(World.ownsRow.lt h2.args q hq).2⟩
set_option maxHeartbeats 8000000 in
set_option maxRecDepth 1000000 in
theorem naive12_any (g:MFnV) (kk:Int) (w:World) (h:MFnIn w g) (hg:MadeM g) :
  Calls Try.prog 59 #[mfv g,.int .i64 kk] w (fun e w'=>∃ p:PrgV,e=.returned (pv p)∧p.k=kk∧MadeP w.heap.size w' p∧Since w w'):=by
 obtain⟨params,bs,bv⟩:=g
 obtain⟨n,hnn⟩:∃ n,bs.length=n:=⟨_,rfl⟩
 have hn9:1≤n∧n≤9:=by rw[←hnn];exact hg.blocks
 obtain⟨BB,boff,bc,rfl⟩:∃ BB boff bc,bv=.slice (some ⟨BB,boff,none⟩) n bc:=by
  rcases (show RowIn mbcells 7 MBlkIn w bv bs from h) with ⟨a,_,h2⟩|⟨B,off,cap,h1,_⟩
  ·rw[h2]at hnn;simp at hnn;omega
  ·exact⟨B,off,cap,by rw[h1,hnn]⟩
 have hpa:0≤params∧params≤4:=hg.params
 have HG:=Lib.hid hg
 have HIN:=Lib.hid (show RowIn mbcells 7 MBlkIn w (.slice (some ⟨BB,boff,none⟩) n bc) bs from h)
 have HNN:=Lib.hid hnn
 have HP3:=Lib.hid (show psum7 bs≤27 from by
  have h1:=psum7_few (l:=bs) fun b hb=>(hg.each b hb).few
  omega)
 clear h hg hnn
 unfold mfv
 dsimp only
 go_enter Try.func59,Try.ntmps59
 go_upto_region 1 with fail
 obtain⟨mq,hmq⟩:∃ z,z=w.heap.size:=⟨_,rfl⟩
 obtain⟨rq,hrq⟩:∃ z,z=w.heap.size+1:=⟨_,rfl⟩
 obtain⟨w1,hw1⟩:∃ z,z=(w.alloc (.cells #[.int .i64 params,.slice (some ⟨BB,boff,none⟩) n bc] 105)).alloc (.cells #[.int .i64 0,.int .i64 0,.int .i64 0,.slice none 0 0] 24):=⟨_,rfl⟩
 have HM1:=Lib.hid (show HeapIs w1 mq #[.int .i64 params,.slice (some ⟨BB,boff,none⟩) n bc] 105 from by rw[hw1,hmq];exact (HeapIs.new _ _ _).keep ((Since.refl _).alloc _))
 have HR1:=Lib.hid (show HeapIs w1 rq #[.int .i64 0,.int .i64 0,.int .i64 0,.slice none 0 0] 24 from by rw[hw1,hrq];exact heap_new1 _ _ _ _)
 have HS1:=Lib.hid (show Since w w1 from by rw[hw1];exact ((Since.refl w).alloc _).alloc _)
 have HZ1:=Lib.hid (show rq=w.heap.size+1∧w1.heap.size=w.heap.size+2 from⟨hrq,by rw[hw1];simp⟩)
 rw[←hw1,←hrq,←hmq]
 clear hw1 hrq hmq
 go_wp2_with (refine wpList_load_row rfl _ _ rfl mq rfl 105 _ (0,0) _ HM1.out Try.underlying105 rfl (by kernel_rfl) ?_)
 refine (top12_any ⟨params,bs,.slice (some ⟨BB,boff,none⟩) n bc⟩ w1 (MFnIn.keep HIN.out HS1.out) HG.out).mono ?_
 rintro e w2 ⟨top,rfl,htop,hbelow,hs2⟩
 have HBL:=Lib.hid hbelow
 have HS2:=Lib.hid (HS1.out.trans hs2)
 have HM2:=Lib.hid (HM1.out.keep hs2)
 have HR2:=Lib.hid (HR1.out.keep hs2)
 have HZ2:=Lib.hid (show w.heap.size+2≤w2.heap.size from by have:=HZ1.out;have:=hs2.size;omega)
 have hm0:=HM2.out.cell 0
 have hml:=HM2.out.lt
 dsimp only at htop
 clear hbelow hs2 HM1 HR1
 go_upto_region 3 with fail
 clear hm0 hml
 obtain⟨pq,hpq⟩:∃ z,z=w2.heap.size:=⟨_,rfl⟩
 obtain⟨w3,hw3⟩:∃ z,z=w2.alloc (.cells #[.int .i64 params,.int .i64 kk,.int .i64 0,.slice none 0 0] 24):=⟨_,rfl⟩
 have HP3b:=Lib.hid (show HeapIs w3 pq #[.int .i64 params,.int .i64 kk,.int .i64 0,.slice none 0 0] 24 from by rw[hw3,hpq];exact HeapIs.new _ _ _)
 have HS3:=Lib.hid (show Since w2 w3 from by rw[hw3];exact (Since.refl _).alloc _)
 have HLOW:=Lib.hid (show w.heap.size≤pq∧w.heap.size≤rq∧rq≠pq from by have:=HZ2.out;have:=HZ1.out;omega)
 rw[←hw3,←hpq]
 clear hw3 hpq
 go_wp2_with fail
 go_loopw [7,8,9] (fun ov nv iv wr=>∃ (i:Nat) (v:Value) (nk:Int),ov=v∧nv=.int .i64 nk∧iv=.int .i64 i∧i≤n∧nk=top+(psum7 (bs.take i):Int)∧NvH w mq rq pq params kk BB boff n bc i (owl top bs i) v wr) (fun _ _ iv _=>n-(intOf iv).toNat)
 case atStart=>exact⟨0,_,top,rfl,rfl,rfl,Nat.zero_le _,by simp[psum7],(HM2.out.keep HS3.out).keep ((Since.refl _).alloc _),HP3b.out.keep ((Since.refl _).alloc _),(HR2.out.keep HS3.out).keep ((Since.refl _).alloc _),⟨rfl,.inr ⟨_,0,#[],rfl,by have:=HZ2.out;have:=HS3.out.size;omega,heap_last _ _,by simp,by unfold maxLen;omega,by simp,by simp[owl]⟩⟩,rfl,(HS2.out.trans HS3.out).trans ((Since.refl _).alloc _)⟩
 case round =>
  obtain⟨i,v,nk,rfl,rfl,rfl,hi,hnk,hst⟩:=hrel
  obtain⟨va,vc,hv⟩:=own_shape hst.own
  subst hv
  have HST:=Lib.hid hst
  have HNK:=Lib.hid hnk
  have hps:=psum7_take bs i
  have hnkb:0≤nk∧nk≤10027:=by have:=HP3.out;omega
  have hm1:=hst.mbox.cell 1
  have hml:=hst.mbox.lt
  clear hst hnk hps
  by_cases hlt:i<n
  ·obtain⟨B1,o1,y,he,hB,hy,hcy,hyin⟩:=RowIn.at (RowIn.keep MBlkIn.keep HIN.out HST.out.old) (show i<bs.length by rw[HNN.out];exact hlt)
   cases he
   have HKY:=Lib.hid hy
   have hfew:=(HG.out.each y (List.mem_of_getElem? hy)).few
   obtain⟨pa,pc,hpv,_⟩:=RowIn.shape (show RowIn fpcells 2 FPhiIn wr y.phv y.phis from hyin.1)
   obtain⟨pl,hpl⟩:∃ z,y.phis.length=z:=⟨_,rfl⟩
   rw[hpl]at hpv hfew
   have HPL:=Lib.hid hpl
   have HB0:=Lib.hid (fun (w5:World) (hs:Since w w5)=>show w5.cell? ⟨BB,boff+i*7,none⟩=some (.slice pa pl pc)∧BB<w5.heap.size from by
    obtain⟨B1,o1,y2,he,hB,hy2,hcy,_⟩:=RowIn.at (RowIn.keep MBlkIn.keep HIN.out hs) (show i<bs.length by rw[HNN.out];exact hlt)
    cases he
    rw[HKY.out]at hy2
    cases hy2
    exact⟨by rw[←hpv];exact hcy 0 (by decide),hB⟩)
   have K1:=Lib.hid (show (wr.alloc (.cells #[.int .i64 nk] 3)).ownsRow w.heap.size 3 1 (.slice va i vc) (owl top bs i).length ((owl top bs i).map (Value.int .i64)) from by rw[owl_len];exact own_keep HST.out.own ((Since.refl _).alloc _))
   have K2:=Lib.hid (show (owl top bs i).length + [nk].length≤1000000 from by rw[owl_len];simp;omega)
   have K3:=Lib.hid (show w.heap.size≤(wr.alloc (.cells #[.int .i64 nk] 3)).heap.size from by have:=HST.out.old.size;simp;omega)
   clear hy hcy hyin hpv hpl hB
   go_upto_region 9 with (refine wpList_append_nums2 (base:=w.heap.size) .i64 rfl _ _ 25 rfl 3 (.int .i64 0) 8 Try.underlying25 Try.info3 rfl (by decide) (.slice va i vc) _ (owl top bs i) [nk] rfl rfl K1.out (one_nums _ _ _) K2.out K3.out ?_;intro v6 w6 hown6 ht6 hnew6;rw[List.length_append,owl_len]at hown6;have HN6:=Lib.hid ((HST.out.keep ((Since.refl _).alloc _)).next hown6 ht6);obtain⟨v6a,v6c,hv6⟩:=own_shape hown6;subst hv6;clear hown6 ht6 hnew6)
   have hm1:=HN6.out.mbox.cell 1
   have hml:=HN6.out.mbox.lt
   obtain⟨hb0,hbl⟩:=HB0.out w6 HN6.out.old
   go_wp2_with fail
   go_roundw
   case rel=>exact⟨i+1,_,nk+pl,by trivial,by trivial,by go_num,by omega,by rw[psum7_succ HKY.out,HPL.out,HNK.out];push_cast;omega,by rw[owl_succ,←HNK.out];exact HN6.out⟩
   case measure=>simp[intOf];omega
  ·obtain rfl:n=i:=by omega
   have HKK:=Lib.hid (show bs.take n=bs from by rw[←HNN.out];exact List.take_length)
   rw[HKK.out]at HNK
   have hpl:=HST.out.out.lt
   have hpf:=HST.out.out.frozen
   have hp2:=HST.out.out.cell 2
   go_upto_block 2 with fail
   clear hpl hpf hp2 hm1 hml
   obtain⟨oc,hoc⟩:∃ z,z=vc:=⟨_,rfl⟩
   subst hoc
   obtain⟨OB,ooff,rfl⟩:∃ OB ooff,va=some ⟨OB,ooff,none⟩:=by
    have h9:=HST.out.own
    obtain⟨_,⟨h1,h2⟩|⟨g,c,u,h1,_⟩⟩:=h9
    ·omega
    ·cases h1;exact⟨_,_,rfl⟩
   obtain⟨w5,hw5⟩:∃ z,z=wr.setCell ⟨pq,2,none⟩ (.int .i64 nk):=⟨_,rfl⟩
   have t5:Turn (fun q=>q=pq) wr w5:=by rw[hw5];exact (Turn.refl (fun q=>q=pq) wr).setCell (p:=⟨pq,2,none⟩) rfl _
   have hst:NvS w mq rq pq params kk nk bs BB boff n bc OB ooff oc (owl top bs n) 0 [] (.slice none 0 0) w5:=by
    have k:=Kin.box HST.out.out
    refine⟨HST.out.mbox.turn t5 (k.heap HST.out.mbox (by decide)),by rw[hw5];exact HST.out.out.set 2 _,HST.out.res.turn t5 HLOW.out.2.2,⟨n,own_turn HST.out.own t5 (k.apart HST.out.own (by decide)),owl_len _ _ _⟩,t5.toSince HST.out.old (fun q hq e=>by have:=HLOW.out;omega),HLOW.out,OwnRow.nil _ _ _ _ _,fun x hx=>(by cases hx),rfl,Nat.zero_le _⟩
   have hG:NvG params nk bs n (owl top bs n):=by
    refine⟨HNN.out,hn9,⟨hpa.1,hpa.2,by have:=HNK.out;omega⟩,by omega,fun b hb=>⟨?_,?_,?_⟩,fun j b hb=>?_⟩
    ·have h9:=HG.out.each b hb
     rw[show (⟨params,bs,.slice (some ⟨BB,boff,none⟩) n bc⟩:MFnV).blocks.length=n from HNN.out]at h9
     exact h9
    ·exact (HBL.out b hb).mono (by have:=HNK.out;omega)
    ·have h1:insSum7 bs≤3600:=HG.out.total
     have h2:=mem_le_sum (List.mem_map.2 ⟨b,hb,rfl⟩:b.ins.length∈bs.map fun b=>b.ins.length)
     unfold insSum7 at h1
     omega
    ·have hj:j<n:=by have h9:=(List.getElem?_eq_some_iff.1 hb).1;rw[HNN.out]at h9;exact h9
     refine⟨_,owl_at top bs hj,by omega,?_⟩
     have h1:=psum7_succ hb
     have h2:=psum7_take bs (j+1)
     have h3:=HNK.out
     omega
   rw[←hw5]
   have HST2:=Lib.hid hst
   have HGG:=Lib.hid hG
   clear hw5 t5 hst hG
   refine nv_blocks w mq rq pq params kk nk bs BB boff n bc OB ooff oc (owl top bs n) _ _ _ (frV_mk rfl rfl (sl_cons rfl (sl_cons rfl (sl_cons rfl (sl_cons rfl (sl_cons rfl (sl_nil _))))))) HIN.out HGG.out HST2.out ?_
   clear HST2 HST
   intro a1 w7 bks bkv hf hst
   obtain⟨u,ha0,hu⟩:=frameV_ex hf
   obtain⟨g1,g2,s2,s4,s6,s7,g3⟩:=hf
   have e2:=hu 2 _ s2
   have e4:=hu 4 _ s4
   have e6:=hu 6 _ s6
   have e7:=hu 7 _ s7
   rw[e2,e4,e6,e7]at ha0
   subst ha0
   clear hu g1 g2 g3 e2 s2 e4 s4 e6 s6 e7 s7
   obtain⟨ba,bc2,hbv⟩:=OwnRow.shape hst.row
   rw[hst.len]at hbv
   subst hbv
   have HST:=Lib.hid hst
   have hp:=hst.out
   have hpl:=hp.lt
   have hp0:=hp.cell 0
   have hp1:=hp.cell 1
   have hp2:=hp.cell 2
   have hp3:=hp.cell 3
   have hr:=hst.res
   have hrl:=hr.lt
   have hrf:=hr.frozen
   have hr0:=hr.cell 0
   have hr1:=hr.cell 1
   have hr2:=hr.cell 2
   have hr3:=hr.cell 3
   clear hst hp hr
   go_wp2_with fail
   have hres:=(((HST.out.res.set 0 (.int .i64 params)).set 1 (.int .i64 kk)).set 2 (.int .i64 nk)).set 3 (.slice ba n bc2)
   try simp only[Exit.inBlock,Exit.then]
   refine bodyPost_ret (results_cell_row rfl _ _ rq 24 #[.int .i64 params,.int .i64 kk,.int .i64 nk,.slice ba n bc2] (0,0) _ rfl hres Try.underlying24 rfl (by kernel_rfl)) rfl ?_
   have t:Turn (fun q=>q=rq) w7 ((((w7.setCell ⟨rq,0,none⟩ (.int .i64 params)).setCell ⟨rq,1,none⟩ (.int .i64 kk)).setCell ⟨rq,2,none⟩ (.int .i64 nk)).setCell ⟨rq,3,none⟩ (.slice ba n bc2)):=((((Turn.refl (fun q=>q=rq) w7).setCell (p:=⟨rq,0,none⟩) rfl _).setCell (p:=⟨rq,1,none⟩) rfl _).setCell (p:=⟨rq,2,none⟩) rfl _).setCell (p:=⟨rq,3,none⟩) rfl _
   have k:=Kin.box HST.out.res
   refine⟨⟨params,kk,nk,bks,.slice ba n bc2⟩,rfl,rfl,⟨⟨hpa.1,hpa.2,by show params≤nk;have:=HGG.out.pa;omega⟩,by show nk≤16000;omega,by show 1≤bks.length∧bks.length≤9;rw[HST.out.len];exact hn9,own_turn HST.out.row t (k.apart (show w7.ownsRow _ _ _ _ _ _ from HST.out.row) (by decide)),fun x hx=>?_,?_⟩,t.toSince HST.out.old fun q hq e=>by have:=HLOW.out;omega⟩
   ·show BlkNew w.heap.size nk bks.length _ x
    rw[HST.out.len]
    exact (HST.out.each x hx).turn t k (by decide) (by decide)
   ·show ptotal bks≤40000
    have h1:=HST.out.total
    rw[HKK.out]at h1
    have h2:insSum7 bs≤3600:=HG.out.total
    have h3:=HST.out.len
    unfold ptotal
    unfold insSum at h1
    omega
end Go.Proofs.Ytkpbmbhejpmboaa
