/- jacquardref07.Of: a block's phis. jacquardref07.Of: a block's instructions. jacquardref07.Of: from the head of a block to the head of the next one. -/
import Derived.Test.YtkpbmbhejpmboaaPkB32
namespace Go.Proofs.Ytkpbmbhejpmboaa
open Go.RowKit
set_option linter.unusedVariables false
structure PhSt (wB:World) (nb:Nat) (kphis:List FPhi) (i:Nat) (phs:List FPhi) (phv:Value) (w:World):Prop where
 box:HeapIs w nb #[phv,.slice none 0 0,.int .i64 0,.int .i64 0,.int .i64 0,.slice none 0 0,.int .i32 0] 143
 row:OwnRow fpcells 2 147 wB.heap.size w phv phs
 ins:∀ p∈phs,OwnRow prcells 2 150 wB.heap.size w p.inv p.ins
 same:phs.map (fun p=>(p.dst,p.ins))=(kphis.take i).map (fun p=>(p.dst,p.ins))
 old:Since wB w
 low:wB.heap.size≤nb
theorem PhSt.keep {wB w w':World} {nb i:Nat} {kphis phs:List FPhi} {phv:Value} (h:PhSt wB nb kphis i phs phv w) (s:Since w w'):PhSt wB nb kphis i phs phv w':=⟨h.box.keep s,h.row.keep s,fun p hp=>(h.ins p hp).keep s,h.same,h.old.trans s,h.low⟩
theorem PhSt.len {wB w:World} {nb i:Nat} {kphis phs:List FPhi} {phv:Value} (h:PhSt wB nb kphis i phs phv w) (hi:i≤kphis.length):phs.length=i:=by
 have h1:=congrArg List.length h.same
 simp only[List.length_map,List.length_take]at h1
 omega
theorem own_base7 {α:Type} {f : α→List Value} {sz b1 b2:Nat} {e : TypeId} {w : World} {v : Value} {l : List α} (h:OwnRow f sz e b1 w v l) (hb:b2≤b1):OwnRow f sz e b2 w v l:=by
 obtain⟨h0,h1|⟨g,c,u,h1,h2,h3⟩⟩:=h
 ·exact⟨h0,.inl h1⟩
 ·exact⟨h0,.inr ⟨g,c,u,h1,Nat.le_trans hb h2,h3⟩⟩
def NewPairs (w0:World) (xs:List (Int × Int)) (v:Value) (w:World):Prop:=OwnRow prcells 2 150 w0.heap.size w v xs
theorem NewPairs.stable (w0:World) (xs:List (Int × Int)):Stable (NewPairs w0 xs):=fun v w w' h s=>OwnRow.keep h s
def NewPhi (w0:World) (d:Int) (xs:List (Int × Int)) (v:Value) (w:World):Prop:=∃ a c,v=.agg #[.int .i64 d,.slice a xs.length c]∧NewPairs w0 xs (.slice a xs.length c) w
theorem NewPhi.stable (w0:World) (d:Int) (xs:List (Int × Int)):Stable (NewPhi w0 d xs):=fun v w w' ⟨a,c,h1,h2⟩ s=>⟨a,c,h1,OwnRow.keep h2 s⟩
def OnePhi7 (w0:World) (d:Int) (xs:List (Int × Int)) (v:Value) (w:World):Prop:=∃ q a c,v=.slice (some ⟨q,0,none⟩) 1 1∧HeapIs w q #[.int .i64 d,.slice a xs.length c] 147∧NewPairs w0 xs (.slice a xs.length c) w
theorem OnePhi7.stable (w0:World) (d:Int) (xs:List (Int × Int)):Stable (OnePhi7 w0 d xs):=fun v w w' ⟨q,a,c,h1,h2,h3⟩ s=>⟨q,a,c,h1,h2.keep s,OwnRow.keep h3 s⟩
theorem PhSt.add {wB wa wb:World} {nb i:Nat} {kphis phs:List FPhi} {phv v':Value} {y p:FPhi} (h:PhSt wB nb kphis i phs phv wa) (hy:kphis[i]? = some y) (hp:p.dst=y.dst∧p.ins=y.ins) (hpi:OwnRow prcells 2 150 wB.heap.size wa p.inv p.ins)
  (hown:OwnRow fpcells 2 147 wB.heap.size wb v' (phs++[p])) (t:Turn (fun q=>phv.ownBlock=some q) wa wb):PhSt wB nb kphis (i+1) (phs++[p]) v' (wb.setCell ⟨nb,0,none⟩ v'):=by
 have hlo:∀ q,phv.ownBlock=some q→wB.heap.size≤q:=fun q hq=>(World.ownsRow.lt h.row q hq).1
 have hbx:HeapIs wb nb #[phv,.slice none 0 0,.int .i64 0,.int .i64 0,.int .i64 0,.slice none 0 0,.int .i32 0] 143:=h.box.turn t (fun e=>own_not h.row h.box (by decide) e)
 have t2:Turn (fun q=>q=nb) wb (wb.setCell ⟨nb,0,none⟩ v'):=(Turn.refl (fun q=>q=nb) wb).setCell (p:=⟨nb,0,none⟩) rfl _
 have hins:∀ z:FPhi,OwnRow prcells 2 150 wB.heap.size wa z.inv z.ins→OwnRow prcells 2 150 wB.heap.size (wb.setCell ⟨nb,0,none⟩ v') z.inv z.ins:=fun z hz=>by
  have h1:OwnRow prcells 2 150 wB.heap.size wb z.inv z.ins:=own_turn hz t fun q hq e=>own_apart hz h.row (by decide) q hq e
  exact own_turn h1 t2 fun q hq e=>own_not h1 hbx (by decide) (e ▸ hq)
 refine⟨hbx.set 0 v',own_turn hown t2 fun q hq e=>own_not hown hbx (by decide) (e ▸ hq),fun z hz=>?_,?_,t2.toSince (t.toSince h.old fun k hk e=>by have:=hlo k e;omega) fun k hk e=>by have:=h.low;omega,h.low⟩
 ·rcases List.mem_append.1 hz with hz|hz
  ·exact hins z (h.ins z hz)
  ·rw[List.mem_singleton.1 hz];exact hins p hpi
 ·rw[List.take_add_one,hy,List.map_append,List.map_append,h.same]
  simp[hp.1,hp.2]
set_option maxHeartbeats 4000000 in
set_option maxRecDepth 1000000 in
theorem of_phis (w0 wB:World) (params:Int) (fb:List FBlk) (k:FBlk) (xb rb kb ob nb FB foff n fbc b:Nat) (a0:Act) (w1:World) (Q0:Exit→Act→World→Prop) (hfr:FrO [(2,.pointer (some ⟨xb,0,none⟩)),(4,.pointer (some ⟨rb,0,none⟩)),(5,.pointer (some ⟨kb,0,none⟩)),(6,.pointer (some ⟨ob,0,none⟩)),(7,.int .i64 b),(8,.pointer (some ⟨nb,0,none⟩)),(9,.int .i64 (0:Nat))] a0)
  (hfn:FnIn w0 ⟨params,fb,.slice (some ⟨FB,foff,none⟩) n fbc⟩) (hkb:fb[b]? = some k) (hn9:n≤9) (hbn:b<n) (hold:Since w0 wB) (hbx:HeapIs wB xb #[.int .i64 params,.slice (some ⟨FB,foff,none⟩) n fbc] 120) (hk3:k.phis.length≤3) (hgp:∀ p∈k.phis,p.ins.length≤9) (hst:PhSt wB nb k.phis 0 [] (.slice none 0 0) w1)
  (hQ:∀ a1 w2 phs phv,FrO [(2,.pointer (some ⟨xb,0,none⟩)),(4,.pointer (some ⟨rb,0,none⟩)),(5,.pointer (some ⟨kb,0,none⟩)),(6,.pointer (some ⟨ob,0,none⟩)),(7,.int .i64 b),(8,.pointer (some ⟨nb,0,none⟩))] a1→PhSt wB nb k.phis k.phis.length phs phv w2→Q0 .normal a1 w2):Code.wp Try.prog (OCode [1,1,1,0,1,0,0,1,0,0,1,0,1]) Q0 a0 w1:=by
 obtain⟨u,ha0,hu⟩:=frameO_ex hfr
 obtain⟨g1,g2,s2,s4,s5,s6,s7,s8,s9,g3⟩:=hfr
 have e2:=hu 2 _ s2
 have e4:=hu 4 _ s4
 have e5:=hu 5 _ s5
 have e6:=hu 6 _ s6
 have e7:=hu 7 _ s7
 have e8:=hu 8 _ s8
 have e9:=hu 9 _ s9
 rw[e2,e4,e5,e6,e7,e8,e9]at ha0
 subst ha0
 clear hu g1 g2 g3 e2 s2 e4 s4 e5 s5 e6 s6 e7 s7 e8 s8 e9 s9
 conv=>arg 2;whnf
 have HQ:=Lib.hid hQ
 have HFN:=Lib.hid hfn
 have HOLD:=Lib.hid hold
 have HBX:=Lib.hid hbx
 have HKB:=Lib.hid hkb
 clear hQ hfn hold hbx
 obtain⟨kl,hkl⟩:∃ z,k.phis.length=z:=⟨_,rfl⟩
 have HKL:=Lib.hid hkl
 have HGP:=Lib.hid hgp
 rw[hkl]at hk3
 clear hkl hkb hgp
 go_wp2_with fail
 refine wp_loop_fr (fun t ac wr=>∃ (i:Nat) (phs:List FPhi) (va:Option Addr) (vc:Nat),t=kl-i∧i≤kl∧FrO [(2,.pointer (some ⟨xb,0,none⟩)),(4,.pointer (some ⟨rb,0,none⟩)),(5,.pointer (some ⟨kb,0,none⟩)),(6,.pointer (some ⟨ob,0,none⟩)),(7,.int .i64 b),(8,.pointer (some ⟨nb,0,none⟩)),(9,.int .i64 i)] ac∧PhSt wB nb k.phis i phs (.slice va i vc) wr) kl ⟨0,[],none,0,rfl,Nat.zero_le _,(frO_mk rfl rfl (sl_cons rfl (sl_cons rfl (sl_cons rfl (sl_cons rfl (sl_cons rfl (sl_cons rfl (sl_cons rfl (sl_nil _))))))))),hst⟩ ?_
 ·clear hst
  intro t a1 wr K hJ hK
  have HK9:=Lib.hid hK
  clear hK
  obtain⟨i,phs,va,vc,rfl,hi,hf,hst⟩:=hJ
  obtain⟨u,ha0,hu⟩:=frameO_ex hf
  obtain⟨g1,g2,s2,s4,s5,s6,s7,s8,s9,g3⟩:=hf
  have e2:=hu 2 _ s2
  have e4:=hu 4 _ s4
  have e5:=hu 5 _ s5
  have e6:=hu 6 _ s6
  have e7:=hu 7 _ s7
  have e8:=hu 8 _ s8
  have e9:=hu 9 _ s9
  rw[e2,e4,e5,e6,e7,e8,e9]at ha0
  subst ha0
  clear hu g1 g2 g3 e2 s2 e4 s4 e5 s5 e6 s6 e7 s7 e8 s8 e9 s9
  have HST:=Lib.hid hst
  have hfat:=FAt.of HFN.out HKB.out (HOLD.out.trans hst.old) (HBX.out.keep hst.old)
  obtain⟨pa,pc,hpv,_⟩:=RowIn.shape (show RowIn fpcells 2 FPhiIn wr k.phv k.phis from hfat.blk.1)
  rw[HKL.out]at hpv
  have hx1:wr.cell? ⟨xb,1,none⟩=some (.slice (some ⟨FB,foff,none⟩) n fbc):=hfat.box.cell 1
  have hxl:=hfat.box.lt
  have hk0:=hfat.cell 0 (by decide)
  rw[show (fbcells k)[0]? = some k.phv from rfl,hpv,Nat.add_zero]at hk0
  have hFl:=hfat.lt
  have HFAT:=Lib.hid hfat
  have HPV:=Lib.hid hpv
  clear hst hfat hpv
  by_cases hlt:i<kl
  ·obtain⟨PB,poff,y,rfl,hPB,hy,hcP,hyin⟩:=RowIn.at (show RowIn fpcells 2 FPhiIn wr (.slice pa kl pc) k.phis from by rw[←HPV.out];exact HFAT.out.blk.1) (by rw[HKL.out];exact hlt)
   obtain⟨dst,ins,inv⟩:=y
   obtain⟨ia,ic,hiv,_⟩:=RowIn.shape (show RowIn prcells 2 (fun _ _=>True) wr inv ins from hyin)
   subst hiv
   have hp0:wr.cell? ⟨PB,poff+i*2,none⟩=some (.int .i64 dst):=hcP 0 (by decide)
   have hp1:wr.cell? ⟨PB,poff+i*2+1,none⟩=some (.slice ia ins.length ic):=hcP 1 (by decide)
   have HY:=Lib.hid hy
   have HI9:=Lib.hid (show ins.length≤9 from HGP.out _ (List.mem_of_getElem? hy))
   have HPIN:=Lib.hid (show RowIn prcells 2 (fun _ _=>True) wr (.slice ia ins.length ic) ins from hyin)
   clear hy hcP hyin
   go_upto_region 11 with fail
   obtain⟨wp,hwp⟩:∃ z,z=wr.alloc (.cells #[.int .i64 dst,.slice ia ins.length ic] 147):=⟨_,rfl⟩
   have hsp:Since wr wp:=by rw[hwp];exact (Since.refl _).alloc _
   obtain⟨pb,hpb⟩:∃ z,z=wr.heap.size:=⟨_,rfl⟩
   have HPB:=Lib.hid (show HeapIs wp pb #[.int .i64 dst,.slice ia ins.length ic] 147 from by rw[hwp,hpb];exact HeapIs.new _ _ _)
   rw[←hwp,←hpb]
   have HST2:=Lib.hid (HST.out.keep hsp)
   have HPI:=Lib.hid (RowIn.keep (fun _ _ _ _ _=>trivial) HPIN.out hsp)
   have HWB:=Lib.hid (show wB.heap.size≤wp.heap.size from Nat.le_trans HST.out.old.size hsp.size)
   have HI:=Lib.hid (show i≤k.phis.length from by rw[HKL.out];omega)
   clear hwp hpb hsp hx1 hxl hk0 hFl hp0 hp1 hPB
   refine wp_region_since_tail 10 rfl (by decide +kernel) (by decide +kernel) (by decide +kernel) (by decide)
    [Is (.pointer (some ⟨nb,0,none⟩)),Is (.slice va i vc),Is (.pointer (some ⟨pb,0,none⟩)),Is (.int .i64 dst),IsNilOf 150 wp,Is (.pointer (some ⟨pb,1,none⟩)),Is (.slice ia ins.length ic),NewPairs wp ins,NewPhi wp dst ins,OnePhi7 wp dst ins]
    (by repeat (first | exact trivial | refine⟨Is.stable _,?_⟩ | refine⟨IsNilOf.stable _ _,?_⟩ | refine⟨NewPairs.stable _ _,?_⟩ | refine⟨NewPhi.stable _ _ _,?_⟩ | refine⟨OnePhi7.stable _ _ _,?_⟩)) ⟨?_,?_,?_,?_,?_,?_,?_,?_,?_,?_,trivial⟩ ?_
   rotate_right
   ·intro vs w5 hs hk
    simp only[List.take,List.drop,putAll,Act.put,KnowsAll,nthF,Is,List.setIfInBounds_toArray,List.set_cons_zero,List.set_cons_succ,Nat.reduceAdd]at hk ⊢
    try simp only[hk]
    obtain⟨q1,na,nc,h9,h9b,h9c⟩:OnePhi7 wp dst ins (vs 9) w5:=by exact hk.2.2.2.2.2.2.2.2.2.1
    simp only[h9]
    have HST5:=Lib.hid (HST2.out.keep hs)
    have HPAIRS:=Lib.hid (show OwnRow prcells 2 150 wB.heap.size w5 (.slice na ins.length nc) ins from own_base7 h9c HWB.out)
    have hfz:=HST5.out.box.frozen
    have hlz:=HST5.out.box.lt
    have hc0:=HST5.out.box.cell 0
    have hlen:=HST2.out.len HI.out
    have HLEN:=Lib.hid hlen
    clear hk hs h9c hlen
    go_wp2_with (refine wpList_append_one2 (base:=wB.heap.size) fpcells 2 fpcells_len (by decide) rfl _ _ 141 rfl 147 (.agg #[.int .i64 0,.slice none 0 0]) 32 Try.underlying141 (by kernel_rfl) rfl (.slice va i vc) phs ⟨dst,ins,.slice na ins.length nc⟩ q1 1 147 rfl rfl HST5.out.row h9b (by intro u hu;simp only[fpcells,List.mem_cons,List.not_mem_nil,or_false]at hu;rcases hu with rfl | rfl<;>rfl) (by rw[HLEN.out];unfold maxLen;omega) (by rw[HLEN.out];omega) (HST5.out.old.size) ?_;intro v' w6 hown' ht' hnew';have HADD:=Lib.hid (HST5.out.add (p:=⟨dst,ins,.slice na ins.length nc⟩) HY.out ⟨rfl,rfl⟩ HPAIRS.out hown' ht');have hfz:=(HST5.out.box.turn ht' (fun e=>own_not HST5.out.row HST5.out.box (by decide) e)).frozen;have hlz:=(HST5.out.box.turn ht' (fun e=>own_not HST5.out.row HST5.out.box (by decide) e)).lt;have hc0:=(HST5.out.box.turn ht' (fun e=>own_not HST5.out.row HST5.out.box (by decide) e)).cell 0;obtain⟨va2,vc2,hv2⟩:=own_shape (show w6.ownsRow _ _ _ _ _ _ from hown');rw[show (phs++[(⟨dst,ins,.slice na ins.length nc⟩:FPhi)]).length=i+1 from by rw[List.length_append,HLEN.out];rfl]at hv2;subst hv2;clear hown' ht' hnew')
    exact HK9.out (kl-(i+1)) _ _ (by omega) ⟨i+1,_,va2,vc2,rfl,by omega,(frO_mk rfl rfl (sl_cons rfl (sl_cons rfl (sl_cons rfl (sl_cons rfl (sl_cons rfl (sl_cons rfl (sl_cons rfl (sl_nil _))))))))),HADD.out⟩
   all_goals
    intro vs w5 hs hk _
    simp only[List.take,putAll,Act.put,Knows,nthF,Is,List.setIfInBounds_toArray,List.set_cons_zero,List.set_cons_succ,Nat.reduceAdd]at hk ⊢
    try simp only[hk]
   ·go_wp2
    exact⟨_,rfl,rfl,Since.refl _⟩
   ·have hbx:=(HST2.out.keep hs).box
    have hc:=hbx.cell 0
    have hl:=hbx.lt
    clear hbx
    go_wp2
    exact⟨_,rfl,rfl,Since.refl _⟩
   ·go_wp2
    exact⟨_,rfl,rfl,Since.refl _⟩
   ·have hbx:HeapIs w5 pb #[.int .i64 dst,.slice ia ins.length ic] 147:=HPB.out.keep hs
    have hc:=hbx.cell 0
    have hl:=hbx.lt
    clear hbx
    go_wp2
    exact⟨_,rfl,rfl,Since.refl _⟩
   ·have hz:=hs.size
    clear hk
    go_wp2
    exact⟨_,rfl,IsNilOf.new hz,(Since.refl _).alloc _⟩
   ·go_wp2
    exact⟨_,rfl,rfl,Since.refl _⟩
   ·have hbx:HeapIs w5 pb #[.int .i64 dst,.slice ia ins.length ic] 147:=HPB.out.keep hs
    have hc:=hbx.cell 1
    have hl:=hbx.lt
    clear hbx
    go_wp2
    exact⟨_,rfl,rfl,Since.refl _⟩
   ·have hz:=hs.size
    have hnil:IsNilOf 150 wp (vs 4) w5:=by exact hk.1
    have hsrc:=srcRow prcells_len (by decide) (RowIn.keep (fun _ _ _ _ _=>trivial) HPI.out hs)
    have hl9:=HI9.out
    generalize vs 4=v4 at *
    clear hk
    refine wpList_append_clone (w0:=wp) rfl _ _ 145 rfl 150 (.agg #[.int .i64 0,.int .i64 0]) 2 16 Try.underlying145 (by kernel_rfl) rfl (by decide) (by decide) v4 (.slice ia ins.length ic) ins.length (ins.flatMap prcells) rfl rfl hnil hsrc (flat_sz prcells 2 prcells_len ins) (by omega) (fun u hu=>by obtain⟨z,_,hu2⟩:=List.mem_flatMap.1 hu;simp only[prcells,List.mem_cons,List.not_mem_nil,or_false]at hu2;rcases hu2 with rfl | rfl<;>rfl) hz ?_
    intro v' w3 hown hs3
    go_wp2
    exact⟨_,rfl,hown,hs3⟩
   ·have h7:NewPairs wp ins (vs 7) w5:=by exact hk.2.1
    obtain⟨na,nc,hv⟩:=OwnRow.shape (show OwnRow prcells 2 150 wp.heap.size w5 (vs 7) ins from h7)
    have h3:vs 3=.int .i64 dst:=by exact hk.1
    generalize vs 7=v7 at *
    subst hv
    clear hk
    go_wp2
    exact⟨_,rfl,⟨na,nc,rfl,h7⟩,Since.refl _⟩
   ·obtain⟨na,nc,h8,h8b⟩:NewPhi wp dst ins (vs 8) w5:=by exact hk.1
    simp only[h8]
    clear hk
    go_wp2
    exact⟨_,rfl,⟨_,na,nc,rfl,HeapIs.new _ _ _,OwnRow.keep h8b ((Since.refl _).alloc _)⟩,(Since.refl _).alloc _⟩
  ·obtain rfl:kl=i:=by omega
   go_wp2_with fail
   exact HQ.out _ _ phs _ (frO_mk rfl rfl (sl_cons rfl (sl_cons rfl (sl_cons rfl (sl_cons rfl (sl_cons rfl (sl_cons rfl (sl_nil _)))))))) (by rw[HKL.out];exact HST.out)
theorem Mv7.old {kb a n i:Nat} {w0 w w':World} {m m':K7} (h:Mv7 kb w m w' m' a n i) (s:Since w0 w) (hlo:∀ q,Own7 kb m q→w0.heap.size≤q):Since w0 w':=h.turn.toSince s fun k hk e=>by have:=hlo k e;omega
set_option maxHeartbeats 4000000 in
set_option maxRecDepth 1000000 in
theorem of_ins (w0 wI:World) (C:Nat→Prop) (sv:Value) (l:List Int) (mI:K7) (params:Int) (fb:List FBlk) (k:FBlk) (xb rb kb ob nb FB foff n fbc b:Nat) (a0:Act) (w1:World) (Q0:Exit→Act→World→Prop) (hfr:FrO [(2,.pointer (some ⟨xb,0,none⟩)),(4,.pointer (some ⟨rb,0,none⟩)),(5,.pointer (some ⟨kb,0,none⟩)),(6,.pointer (some ⟨ob,0,none⟩)),(7,.int .i64 b),(8,.pointer (some ⟨nb,0,none⟩)),(11,.int .i64 (0:Nat))] a0)
  (hfn:FnIn w0 ⟨params,fb,.slice (some ⟨FB,foff,none⟩) n fbc⟩) (hfl:(∀ x∈k.ins,∀ q,x.av.ownBlock=some q→q<w0.heap.size)∧True) (hkb:fb[b]? = some k) (hn9:n≤9) (hbn:b<n) (hold:Since w0 wI) (hbx:HeapIs wI xb #[.int .i64 params,.slice (some ⟨FB,foff,none⟩) n fbc] 120∧¬ Own7 kb mI xb)
  (hlo:(∀ q,Own7 kb mI q→w0.heap.size≤q)∧∀ q,C q→w0.heap.size≤q) (hgi:∀ x∈k.ins,InsGood 700 x) (hk7:k.ins.length≤700) (hA:mI.at_+4*k.ins.length≤40000) (hN:0≤mI.next∧mI.next+4*k.ins.length≤4000) (hL:mI.l=[]) (hok:K7Ok C kb sv l mI w1) (hwI:Mv7 kb wI mI w1 mI 0 0 0)
  (hQ:∀ a1 w2 (m:K7),FrO [(2,.pointer (some ⟨xb,0,none⟩)),(4,.pointer (some ⟨rb,0,none⟩)),(5,.pointer (some ⟨kb,0,none⟩)),(6,.pointer (some ⟨ob,0,none⟩)),(7,.int .i64 b),(8,.pointer (some ⟨nb,0,none⟩))] a1→K7Ok C kb sv l m w2→Mv7 kb wI mI w2 m (4*k.ins.length) (4*k.ins.length) (5*k.ins.length)→Q0 .normal a1 w2):Code.wp Try.prog (OCode [1,1,1,0,1,0,0,1,0,0,1,1,1,0,1]) Q0 a0 w1:=by
 obtain⟨u,ha0,hu⟩:=frameO_ex hfr
 obtain⟨g1,g2,s2,s4,s5,s6,s7,s8,s11,g3⟩:=hfr
 have e2:=hu 2 _ s2
 have e4:=hu 4 _ s4
 have e5:=hu 5 _ s5
 have e6:=hu 6 _ s6
 have e7:=hu 7 _ s7
 have e8:=hu 8 _ s8
 have e11:=hu 11 _ s11
 rw[e2,e4,e5,e6,e7,e8,e11]at ha0
 subst ha0
 clear hu g1 g2 g3 e2 s2 e4 s4 e5 s5 e6 s6 e7 s7 e8 s8 e11 s11
 conv=>arg 2;whnf
 have HQ:=Lib.hid hQ
 have HFN:=Lib.hid hfn
 have HFL:=Lib.hid hfl
 have HOLD:=Lib.hid hold
 have HBX:=Lib.hid hbx
 have HKB:=Lib.hid hkb
 have HLO:=Lib.hid hlo
 have HGI:=Lib.hid hgi
 clear hQ hfn hold hbx hfl hlo hgi
 obtain⟨kl,hkl⟩:∃ z,k.ins.length=z:=⟨_,rfl⟩
 have HKL:=Lib.hid hkl
 rw[hkl]at hk7 hA hN
 clear hkl hkb
 have HCN:=Lib.hid (And.intro hA (And.intro hN hL))
 clear hA hN hL
 go_wp2_with fail
 refine wp_loop_fr (fun t ac wr=>∃ (i:Nat) (m:K7),t=kl-i∧i≤kl∧FrO [(2,.pointer (some ⟨xb,0,none⟩)),(4,.pointer (some ⟨rb,0,none⟩)),(5,.pointer (some ⟨kb,0,none⟩)),(6,.pointer (some ⟨ob,0,none⟩)),(7,.int .i64 b),(8,.pointer (some ⟨nb,0,none⟩)),(11,.int .i64 i)] ac∧K7Ok C kb sv l m wr∧Mv7 kb wI mI wr m (4*i) (4*i) (5*i)) kl ⟨0,mI,rfl,Nat.zero_le _,(frO_mk rfl rfl (sl_cons rfl (sl_cons rfl (sl_cons rfl (sl_cons rfl (sl_cons rfl (sl_cons rfl (sl_cons rfl (sl_nil _))))))))),hok,hwI⟩ ?_
 ·clear hok hwI
  intro t a1 wr K hJ hK
  have HK9:=Lib.hid hK
  clear hK
  obtain⟨i,m,rfl,hi,hf,hok,hmv⟩:=hJ
  obtain⟨u,ha0,hu⟩:=frameO_ex hf
  obtain⟨g1,g2,s2,s4,s5,s6,s7,s8,s11,g3⟩:=hf
  have e2:=hu 2 _ s2
  have e4:=hu 4 _ s4
  have e5:=hu 5 _ s5
  have e6:=hu 6 _ s6
  have e7:=hu 7 _ s7
  have e8:=hu 8 _ s8
  have e11:=hu 11 _ s11
  rw[e2,e4,e5,e6,e7,e8,e11]at ha0
  subst ha0
  clear hu g1 g2 g3 e2 s2 e4 s4 e5 s5 e6 s6 e7 s7 e8 s8 e11 s11
  have HOK:=Lib.hid hok
  have HMV:=Lib.hid hmv
  have hold2:Since w0 wr:=hmv.old HOLD.out fun q hq=>HLO.out.1 q hq
  have hfat:=FAt.of HFN.out HKB.out hold2 (hmv.heap HBX.out.1 HBX.out.2)
  obtain⟨pa,pc,hpv,_⟩:=RowIn.shape (show RowIn ficells 5 FInsIn wr k.inv k.ins from hfat.blk.2.1)
  rw[HKL.out]at hpv
  have hx1:wr.cell? ⟨xb,1,none⟩=some (.slice (some ⟨FB,foff,none⟩) n fbc):=hfat.box.cell 1
  have hxl:=hfat.box.lt
  have hk1:=hfat.cell 1 (by decide)
  rw[show (fbcells k)[1]? = some k.inv from rfl,hpv]at hk1
  have hFl:=hfat.lt
  have HFAT:=Lib.hid hfat
  have HPV:=Lib.hid hpv
  clear hok hmv hfat hpv hold2
  by_cases hlt:i<kl
  ·obtain⟨PB,poff,y,rfl,hPB,hy,hcP,hyin⟩:=RowIn.at (show RowIn ficells 5 FInsIn wr (.slice pa kl pc) k.ins from by rw[←HPV.out];exact HFAT.out.blk.2.1) (by rw[HKL.out];exact hlt)
   have hym:=List.mem_of_getElem? hy
   have HYIN:=Lib.hid (show Ints wr y.av y.args from hyin)
   have HYG:=Lib.hid (HGI.out y hym)
   have hst:Stays (OwnC7 C kb m) wr y.av:=fun q hq=>by
    have h1:=(HFL.out.1 y hym) q hq
    have h2:=HMV.out.turn.size
    have h3:=HOLD.out.size
    refine⟨?_,by omega⟩
    rintro (h4|h4)
    ·rcases HMV.out.new q h4 with h5|h5
     ·have:=HLO.out.1 q h5;omega
     ·omega
    ·have:=HLO.out.2 q h4;omega
   have HST:=Lib.hid hst
   have HSM:=Lib.hid (show Sm7 40 m from by
    have h1:=HMV.out.at_
    have h2:=HMV.out.next
    have h3:=HMV.out.len
    have h4:=HCN.out
    rw[h4.2.2]at h3
    simp only[List.length_nil]at h3
    exact⟨by omega,by omega,by omega⟩)
   have hq0:wr.cell? ⟨PB,poff+i*5,none⟩=some (.int .i64 y.op):=hcP 0 (by decide)
   have hq1:wr.cell? ⟨PB,poff+i*5+1,none⟩=some (.int .i64 y.dst):=hcP 1 (by decide)
   have hq2:wr.cell? ⟨PB,poff+i*5+2,none⟩=some (.int .i64 y.two):=hcP 2 (by decide)
   have hq3:wr.cell? ⟨PB,poff+i*5+3,none⟩=some y.av:=hcP 3 (by decide)
   have hq4:wr.cell? ⟨PB,poff+i*5+4,none⟩=some (.int .i32 y.imm):=hcP 4 (by decide)
   clear hy hcP hyin hym hst
   go_wp2_with fail
   refine (k7_ins HOK.out HSM.out y ⟨HYIN.out,HST.out⟩ HYG.out).mono ?_
   rintro e w2 ⟨m2,rfl,h2,mv2⟩
   have H2:=Lib.hid h2
   have MV2:=Lib.hid ((HMV.out.trans mv2).more (a':=4*(i+1)) (n':=4*(i+1)) (i':=5*(i+1)) (by omega) (by omega) (by omega))
   clear h2 mv2
   go_wp2_with fail
   exact HK9.out (kl-(i+1)) _ _ (by omega) ⟨i+1,m2,rfl,by omega,(frO_mk rfl rfl (sl_cons rfl (sl_cons rfl (sl_cons rfl (sl_cons rfl (sl_cons rfl (sl_cons rfl (sl_cons rfl (sl_nil _))))))))),H2.out,MV2.out⟩
  ·obtain rfl:kl=i:=by omega
   go_wp2_with fail
   exact HQ.out _ _ m (frO_mk rfl rfl (sl_cons rfl (sl_cons rfl (sl_cons rfl (sl_cons rfl (sl_cons rfl (sl_cons rfl (sl_nil _)))))))) HOK.out (by rw[HKL.out];exact HMV.out)
def OfC (ob rb nb:Nat) (bkv:Value) (q:Nat):Prop:=q=ob∨q=rb∨q=nb∨bkv.ownBlock=some q
section
variable {w0 wr w2 w3 w5 w7 wz w8 w9:World} {xb ob rb kb nb n b a nn i:Nat} {params:Int} {fbv sv bkv bkv' phv:Value} {l : List Int} {fb:List FBlk} {k : FBlk} {bks:List MBlkV} {phs:List FPhi} {mI m:K7} {ev:EndV}
theorem OfS.kbAt (h:OfS w0 xb ob rb kb n params fbv sv fb b bks bkv wr):∃ cs,HeapIs wr kb cs 173:=by
 obtain⟨at_,nx,lv,h1,_⟩:=h.mkr
 exact⟨_,h1⟩
theorem OfS.next (h:OfS w0 xb ob rb kb n params fbv sv fb b bks bkv wr) (hk:fb[b]? = some k) (hP:PhSt wr nb k.phis k.phis.length phs phv w2) (hnb:nb=wr.heap.size) (t3:Turn (fun q=>q=kb) w2 w3)
  (hI:mI.at_≤4*finsSum (fb.take b)+2*b∧0≤mI.next∧mI.next≤700+4*finsSum (fb.take b)+b∧mI.l=[]∧mI.lv=.slice none 0 0∧mI.base=w0.heap.size)
  (hmv:Mv7 kb w3 mI w5 m (4*k.ins.length+2) (4*k.ins.length+1) (5*k.ins.length+2)) (hok:K7Ok (OfC ob rb nb bkv) kb sv l m w5) (hev:Ints w5 ev.tov ev.to∧Stays (OwnC7 (OfC ob rb nb bkv) kb m) w5 ev.tov) (hew:∀ q,ev.tov.ownBlock=some q→m.base≤q) (heg:EGood7 n ev)
  (hgp:∀ p∈k.phis,(0≤p.dst∧p.dst<700)∧p.ins.length≤9∧∀ y∈p.ins,(0≤y.1∧y.1<(n:Int))∧0≤y.2∧y.2<700) (hk3:k.phis.length≤3)
  (t7:Turn (fun q=>q=nb) w5 w7) (s7:Since w7 wz) (t8:Turn (fun q=>bkv.ownBlock=some q) wz w8) (hnew:NewOr wz bkv bkv') (hown:OwnRow mbcells 7 143 w0.heap.size w8 bkv' (bks++[⟨phs,phv,m.l,m.lv,ev⟩]))
  (t9:Turn (fun q=>q=ob) w8 w9) (hout:HeapIs w9 ob #[.int .i64 params,bkv'] 105):OfS w0 xb ob rb kb n params fbv sv fb (b+1) (bks++[⟨phs,phv,m.l,m.lv,ev⟩]) bkv' w9:=by
 obtain⟨cs,hkb⟩:=h.kbAt
 have hz2:=hP.old.size
 have hz3:=t3.size
 have hz5:=hmv.turn.size
 have hz7:=t7.size
 have hzz:=s7.size
 have hz8:=t8.size
 have hz9:=t9.size
 have hkl:=hkb.lt
 have hol:=h.out.lt
 have hrl:=h.res.lt
 have hbl:∀ q,bkv.ownBlock=some q→w0.heap.size≤q∧q<wr.heap.size:=fun q hq=>World.ownsRow.lt (show wr.ownsRow _ _ _ _ _ _ from h.row) q hq
 have tn:Turn (fun q=>q=kb∨q=nb∨q=ob∨bkv.ownBlock=some q) w2 w9:=by
  have a3:=t3.mono (S':=fun q=>q=kb∨q=nb∨q=ob∨bkv.ownBlock=some q) fun q _ e=>.inl e
  have a5:=hmv.turn.mono (S':=fun q=>q=kb∨q=nb∨q=ob∨bkv.ownBlock=some q) fun q _ e=>by
   rcases e with e|e
   ·exact .inl e
   ·rw[hI.2.2.2.2.1]at e;cases e
  have a7:=t7.mono (S':=fun q=>q=kb∨q=nb∨q=ob∨bkv.ownBlock=some q) fun q _ e=>.inr (.inl e)
  have az:=Turn.since (S:=fun q=>q=kb∨q=nb∨q=ob∨bkv.ownBlock=some q) s7
  have a8:=t8.mono (S':=fun q=>q=kb∨q=nb∨q=ob∨bkv.ownBlock=some q) fun q _ e=>.inr (.inr (.inr e))
  have a9:=t9.mono (S':=fun q=>q=kb∨q=nb∨q=ob∨bkv.ownBlock=some q) fun q _ e=>.inr (.inr (.inl e))
  exact ((((a3.trans a5).trans a7).trans az).trans a8).trans a9
 have tt:Turn (fun q=>q=kb∨q=ob∨bkv.ownBlock=some q) wr w9:=by
  have a1:=(Turn.since (S:=fun q=>(q=kb∨q=ob∨bkv.ownBlock=some q)∨q=nb) hP.old)
  have a2:=tn.mono (S':=fun q=>(q=kb∨q=ob∨bkv.ownBlock=some q)∨q=nb) fun q _ e=>by
   rcases e with e|e|e|e
   ·exact .inl (.inl e)
   ·exact .inr e
   ·exact .inl (.inr (.inl e))
   ·exact .inl (.inr (.inr e))
  refine (a1.trans a2).mono fun q hq e=>?_
  rcases e with e|e
  ·exact e
  ·omega
 have t5:Turn (fun q=>q=nb∨q=ob∨bkv.ownBlock=some q) w5 w9:=by
  have a7:=t7.mono (S':=fun q=>q=nb∨q=ob∨bkv.ownBlock=some q) fun q _ e=>.inl e
  have az:=Turn.since (S:=fun q=>q=nb∨q=ob∨bkv.ownBlock=some q) s7
  have a8:=t8.mono (S':=fun q=>q=nb∨q=ob∨bkv.ownBlock=some q) fun q _ e=>.inr (.inr e)
  have a9:=t9.mono (S':=fun q=>q=nb∨q=ob∨bkv.ownBlock=some q) fun q _ e=>.inr (.inl e)
  exact ((a7.trans az).trans a8).trans a9
 have hC5:∀ q,(q=nb∨q=ob∨bkv.ownBlock=some q)→OfC ob rb nb bkv q:=by
  rintro q (e|e|e)
  ·exact .inr (.inr (.inl e))
  ·exact .inl e
  ·exact .inr (.inr (.inr e))
 have hfar:∀ {v : Value},(∀ q,v.ownBlock=some q→wr.heap.size≤q∧q<w2.heap.size∧q≠nb)→(∀ q,v.ownBlock=some q→¬ (q=kb∨q=nb∨q=ob∨bkv.ownBlock=some q))∧Stays (OfT w0.heap.size kb ob rb bkv') w9 v:=fun {v} hv=>by
  refine⟨fun q hq e=>?_,fun q hq=>⟨fun e=>?_,?_⟩⟩
  ·have h1:=hv q hq
   rcases e with e|e|e|e
   ·omega
   ·exact h1.2.2 e
   ·omega
   ·have:=hbl q e;omega
  ·have h1:=hv q hq
   have hold0:=h.old.size
   rcases e with e|e|e|e|e
   ·omega
   ·omega
   ·omega
   ·omega
   ·rcases hnew q e with h2|h2
    ·have:=hbl q h2;omega
    ·omega
  ·have h1:=hv q hq
   have:=tn.size
   omega
 have hphv:∀ q,phv.ownBlock=some q→wr.heap.size≤q∧q<w2.heap.size∧q≠nb:=fun q hq=>by
  have h1:=World.ownsRow.lt (show w2.ownsRow _ _ _ _ _ _ from hP.row) q hq
  exact⟨h1.1,h1.2,fun e=>own_not hP.row hP.box (by decide) (e ▸ hq)⟩
 have hinv:∀ p∈phs,∀ q,p.inv.ownBlock=some q→wr.heap.size≤q∧q<w2.heap.size∧q≠nb:=fun p hp q hq=>by
  have h1:=World.ownsRow.lt (show w2.ownsRow _ _ _ _ _ _ from hP.ins p hp) q hq
  exact⟨h1.1,h1.2,fun e=>own_not (hP.ins p hp) hP.box (by decide) (e ▸ hq)⟩
 have hlen:phs.length=k.phis.length:=hP.len (Nat.le_refl _)
 have hsame:∀ p∈phs,∃ y∈k.phis,p.dst=y.dst∧p.ins=y.ins:=fun p hp=>by
  have h1:(p.dst,p.ins)∈phs.map (fun p=>(p.dst,p.ins)):=List.mem_map.2 ⟨p,hp,rfl⟩
  rw[hP.same,List.take_length]at h1
  obtain⟨y,hy,he⟩:=List.mem_map.1 h1
  injection he with e1 e2
  exact⟨y,hy,e1.symm,e2.symm⟩
 have hrow5:∀ q,m.lv.ownBlock=some q→¬ (q=nb∨q=ob∨bkv.ownBlock=some q):=fun q hq e=>(hok.aside q (hC5 q e)).2 (.inr hq)
 have hmb:m.base=w0.heap.size:=hmv.base.trans hI.2.2.2.2.2
 have hst5:∀ {v : Value},Stays (OwnC7 (OfC ob rb nb bkv) kb m) w5 v→(∀ q,v.ownBlock=some q→m.base≤q)→(∀ q,v.ownBlock=some q→¬ (q=nb∨q=ob∨bkv.ownBlock=some q))∧Stays (OfT w0.heap.size kb ob rb bkv') w9 v:=fun {v} hv hw=>by
  refine⟨fun q hq e=>(hv q hq).1 (.inr (hC5 q e)),fun q hq=>⟨fun e=>?_,by have:=(hv q hq).2;have:=t5.size;omega⟩⟩
  rcases e with e|e|e|e|e
  ·have:=hw q hq;omega
  ·exact (hv q hq).1 (.inl (.inl e))
  ·exact (hv q hq).1 (.inr (.inl e))
  ·exact (hv q hq).1 (.inr (.inr (.inl e)))
  ·rcases hnew q e with h2|h2
   ·exact (hv q hq).1 (.inr (.inr (.inr (.inr h2))))
   ·have:=(hv q hq).2;omega
 have hsum:=finsSum_succ hk
 refine⟨h.box.turn tt ?_,hout,h.res.turn tt ?_,?_,tt.toSince h.old ?_,h.low,h.ne,own_turn hown t9 fun q hq e=>?_,fun x hx=>?_,by rw[List.length_append,h.len];rfl,?_⟩
 ·rintro (e|e|e)
  ·exact heap_ne h.box hkb (by decide) e
  ·exact heap_ne h.box h.out (by decide) e
  ·exact own_not h.row h.box (by decide) e
 ·rintro (e|e|e)
  ·exact heap_ne h.res hkb (by decide) e
  ·exact h.ne e.symm
  ·exact own_not h.row h.res (by decide) e
 ·have hkn:¬ (kb=nb∨kb=ob∨bkv.ownBlock=some kb):=fun e=>(hok.aside kb (hC5 kb e)).2 (.inl rfl)
  have h1:=hmv.at_
  have h2:=hmv.next
  exact⟨m.at_,m.next,m.lv,hok.made.turn t5 hkn,by omega,by omega,by push_cast;omega⟩
 ·rintro q hq (e|e|e)
  ·have:=h.low.1;omega
  ·have:=h.low.2.1;omega
  ·have:=hbl q e;omega
 ·exact own_not hown (show HeapIs w8 ob #[.int .i64 params,bkv] 105 from by
   have hn:¬ (ob=kb∨bkv.ownBlock=some ob):=by
    rintro (e|e)
    ·exact heap_ne h.out hkb (by decide) e
    ·exact own_not h.row h.out (by decide) e
   have a1:=h.out.keep hP.old
   have a3:=a1.turn t3 fun e=>hn (.inl e)
   have a5:=a3.turn hmv.turn fun e=>by
    rcases e with e|e
    ·exact hn (.inl e)
    ·rw[hI.2.2.2.2.1]at e;cases e
   have a7:=a5.turn t7 fun e=>by omega
   exact (a7.keep s7).turn t8 fun e=>hn (.inr e)) (by decide) (e ▸ hq)
 ·rcases List.mem_append.1 hx with hx|hx
  ·obtain⟨h1,h2,h3⟩:=h.each x hx
   refine⟨h1.turn h2 tt fun q _ e=>?_,h2.mono (fun q e=>?_) tt.size,h3⟩
   ·rcases e with e|e|e
    ·exact .inr (.inl e)
    ·exact .inr (.inr (.inl e))
    ·exact .inr (.inr (.inr (.inr e)))
   ·rcases e with e|e|e|e|e
    ·exact .inl (.inl e)
    ·exact .inl (.inr (.inl e))
    ·exact .inl (.inr (.inr (.inl e)))
    ·exact .inl (.inr (.inr (.inr (.inl e))))
    ·rcases hnew q e with h4|h4
     ·exact .inl (.inr (.inr (.inr (.inr h4))))
     ·exact .inr (by omega)
  ·rw[List.mem_singleton.1 hx]
   have hp9:OwnRow fpcells 2 147 wr.heap.size w9 phv phs:=own_turn hP.row tn (hfar hphv).1
   have hi9:∀ p∈phs,FPhiIn w9 p:=fun p hp=>show RowIn prcells 2 (fun _ _=>True) w9 p.inv p.ins from row_own_in prcells_len (show OwnRow prcells 2 150 wr.heap.size w9 p.inv p.ins from own_turn (hP.ins p hp) tn (hfar (hinv p hp)).1) fun _ _=>trivial
   have hm9:OwnRow macells 8 46 m.base w9 m.lv m.l:=own_turn hok.row t5 hrow5
   refine⟨⟨row_own_in fpcells_len hp9 hi9,row_own_in macells_len hm9 fun y hy=>(hok.arg y hy).1.turn t5 (hst5 (hok.arg y hy).2 (hok.newer y hy)).1,hev.1.turn t5 (hst5 hev.2 hew).1⟩,⟨(hfar hphv).2,fun p hp=>(hfar (hinv p hp)).2,fun q hq=>⟨fun e=>?_,?_⟩,fun y hy=>(hst5 (hok.arg y hy).2 (hok.newer y hy)).2,(hst5 hev.2 hew).2⟩,by show phs.length≤3;omega,fun p hp=>?_,hok.good,heg⟩
   ·rcases e with e|e|e|e|e
    ·have:=(World.ownsRow.lt (show w5.ownsRow _ _ _ _ _ _ from hok.row) q hq).1;omega
    ·exact hok.kb_row (e ▸ hq)
    ·exact hrow5 q hq (.inr (.inl e))
    ·exact (hok.aside q (.inr (.inl e))).2 (.inr hq)
    ·rcases hnew q e with h4|h4
     ·exact hrow5 q hq (.inr (.inr h4))
     ·have:=own_some_lt hok.row hq;omega
   ·have:=own_some_lt hok.row hq;have:=t5.size;omega
   ·obtain⟨y,hy,e1,e2⟩:=hsame p hp
    rw[e1,e2]
    exact hgp y hy
 ·have h1:=hmv.len
  rw[hI.2.2.2.1]at h1
  simp only[List.length_nil]at h1
  have h2:=h.total
  unfold insSum7 at h2 ⊢
  rw[List.map_append,List.sum_append]
  show _+(m.l.length+0)≤_
  omega
end
end Go.Proofs.Ytkpbmbhejpmboaa
