/- The document's phi: the walk. -/
import Derived.Test.YtmhojfpidedjeaaGreatDoorRz15
namespace Go.Proofs.YtmhojfpidedjeaaGreatDoor
open Go.RowKit
set_option linter.unusedVariables false
def PhiQ (w0:World) (pb:Nat) (params pl:Int) (bv:Value) (bl:List FBlk) (l:List ByteArray) (w:World) (x:Ending) (w':World):Prop:=
 x=.returned (.tuple #[])∧∃ e' bl',RPa w0 pb params pl e' bv bl' w'∧Turn (PaOwn pb bv bl) w w'∧PaAns (phiSt ⟨params,bl.map FBlk.d,pl⟩ l) e' params bl'
section
variable {w0:World} {pb:Nat} {params pl:Int} {bv:Value} {bl:List FBlk}
set_option maxHeartbeats 4000000 in
set_option maxRecDepth 100000 in
theorem rphi_nil (w:World) (h:RPa w0 pb params pl 0 bv bl w) (a:Option Addr) (c:Nat):Calls Tryz.prog 91 #[.pointer (some ⟨pb,0,none⟩),.slice a 0 c] w (PhiQ w0 pb params pl bv bl [] w):=by
 have H:=Lib.hid h
 clear h
 go_enter Tryz.func91,Tryz.ntmps91
 go_wp2_with fail
 refine (rfail_any w H.out _ 70).mono ?_
 rintro e1 w1 ⟨rfl,hp,ht⟩
 have HP:=Lib.hid hp
 have HT:=Lib.hid ht
 have c3:w1.cell? ⟨pb,3,none⟩=some (.int .i64 70):=hp.cell 3
 have hl:=hp.box.lt
 clear hp ht
 go_wp2_with fail
 go_loopw [4] (fun io wr=>io=.int .i64 1∧wr=w1) (fun _ _=>0)
 case atStart=>exact⟨rfl,rfl⟩
 case round =>
  obtain⟨rfl,rfl⟩:=hrel
  go_wp2
  go_end0
  exact⟨rfl,70,bl,HP.out,HT.out.mono (fun q _ hq=>.inl hq),rfl,by decide⟩
set_option maxHeartbeats 8000000 in
set_option maxRecDepth 100000 in
theorem rphi_cons (w:World) (h:RPa w0 pb params pl 0 bv bl w) (v:Value) (d:ByteArray) (r:List ByteArray) (hl:StrsIn w v (d::r)) (hst:Stays (PaOwn pb bv bl) w v) (hn:r.length≤400000) (b:FBlk) (hb:bl[bl.length-1]? = some b) (hb1:bl.length≤1000000) (hb2:b.phis.length≤1000000):Calls Tryz.prog 91 #[.pointer (some ⟨pb,0,none⟩),v] w (PhiQ w0 pb params pl bv bl (d::r) w):=by
 obtain⟨a,c,e1,_⟩:=RowIn.shape hl
 obtain⟨n,hnn⟩:∃ n,r.length+1=n:=⟨_,rfl⟩
 rw[List.length_cons,hnn]at e1
 subst e1
 have H:=Lib.hid h
 have HL:=Lib.hid (fun (S:Nat→Prop) w' (hS:∀ q,S q→PaOwn pb bv bl q∨w.heap.size≤q) (t:Turn S w w')=>(RowIn.turn hl t (fun q hq hr=>by rcases hS q hr with h1 | h1;exact (hst q hq).1 h1;have:=(hst q hq).2;omega) (fun _ _ h=>h):StrsIn w' _ (d::r)))
 have HST:=Lib.hid hst
 have HB:=Lib.hid hb
 have HNN:=Lib.hid hnn
 have hd1:((n:Int)<1)=False:=by simp;omega
 have hn2:1≤n∧n≤400001:=by omega
 have hcap:n≤c:=by
  rcases hl with ⟨_,_,h2⟩|⟨_,_,_,h1,h2,_⟩
  ·cases h2
  ·cases h1;rw[List.length_cons,hnn]at h2;exact h2
 clear h hl hst hb hnn
 go_enter Tryz.func91,Tryz.ntmps91
 go_wp2_with fail
 refine (rfail_any w H.out _ 70).mono ?_
 rintro e1 w1 ⟨rfl,hp,ht⟩
 have he1:∀ x:Bool,x=false→failE 0 x 70=phiE (d::r) 1:=fun x hx=>by subst hx;rfl
 rw[he1 _ (by simp)]at hp
 have HP:=Lib.hid hp
 have HT:=Lib.hid ht
 clear hp ht he1
 go_wp2_with fail
 go_loopw [4] (fun io wr=>∃ k:Nat,io=.int .i64 k∧1≤k∧k≤n∧RPa w0 pb params pl (phiE (d::r) k) bv bl wr∧Turn (fun q=>q=pb) w wr) (fun io _=>n-(intOf io).toNat)
 case atStart=>exact⟨1,rfl,by omega,by omega,HP.out,HT.out⟩
 case round =>
  obtain⟨k,rfl,hk1,hk,hp,ht⟩:=hrel
  by_cases hlt:k<n
  ·obtain⟨bx,off,x,rfl,hbx,hx,hc,hxs⟩:=StrsIn.at (HL.out _ wr (fun q hq=>.inl (.inl hq)) ht) (by rw[List.length_cons,HNN.out];exact hlt)
   have HX:=Lib.hid hx
   have HP2:=Lib.hid hp
   have HT2:=Lib.hid ht
   have HCUT:=Lib.hid (rcut_any x wr hxs)
   clear hp ht hx hxs
   obtain⟨cx,hcx⟩:∃ cx,colons x=cx:=⟨_,rfl⟩
   have HCX:=Lib.hid hcx
   clear hcx
   go_wp2_with fail
   refine HCUT.out.mono ?_
   rintro e2 w2 ⟨rfl,hs2⟩
   rw[HCX.out]
   have HP3:=Lib.hid (HP2.out.keep hs2)
   have HT3:=Lib.hid (HT2.out.later (Turn.since (S:=fun q=>q=pb) hs2) (fun q hq=>.inl hq))
   clear hs2 hc hbx
   go_wp2_with fail
   refine (rfail_any w2 HP3.out _ 70).mono ?_
   rintro e3 w3 ⟨rfl,hp3,ht3⟩
   rw[←HCX.out,phiE_next HX.out hk1]at hp3
   have HP4:=Lib.hid hp3
   have HT4:=Lib.hid (HT3.out.trans ht3)
   clear hp3 ht3
   go_wp2
   go_roundw
   case rel=>exact⟨k+1,by go_num,by omega,by omega,HP4.out,HT4.out⟩
   case measure=>simp[intOf];omega
  ·obtain rfl:n=k:=by omega
   have c3:wr.cell? ⟨pb,3,none⟩=some (.int .i64 (phiE (d::r) n)):=hp.cell 3
   have hpl:=hp.box.lt
   have HP2:=Lib.hid hp
   have HT2:=Lib.hid ht
   clear hp ht
   by_cases hg:phiE (d::r) n=0
   ·rw[hg]at c3
    rw[hg]at HP2
    have hgd:=phi_good (d:=d) (r:=r) ⟨params,bl.map FBlk.d,pl⟩ (by rw[HNN.out];exact hg)
    have HGD:=Lib.hid hgd
    clear hg hgd hlt
    go_wp2_with fail
    have hs1:Stays (fun q=>q=pb) wr (.slice a 1 c):=stays_slice (HST.out.mono (fun q hq=>.inl (.inl hq)) HT2.out.size)
    refine (rnums25_any wr HP2.out _ [d] (RowIn.first (HL.out _ wr (fun q hq=>.inl (.inl hq)) HT2.out) hn2.1 (by decide)) hs1 (by simp)).mono ?_
    rintro e4 w4 ⟨rv,rfl,hrow,hp4,ht4⟩
    rw[phiN_zero d r]at hp4
    obtain⟨g4,c4,rfl,hg1,hg2,hg3,hg4,hg5⟩:=own_one (show w4.ownsRow _ _ 1 _ 1 [.int .i64 (numW d)] from hrow)
    obtain⟨dn,hdn⟩:∃ dn,numW d=dn:=⟨_,rfl⟩
    rw[hdn]at hg5
    have HDN:=Lib.hid hdn
    have HP4:=Lib.hid hp4
    have HT4:=Lib.hid (HT2.out.trans ht4)
    clear hrow hp4 ht4 hdn hs1 c3 hg3
    go_wp2_with fail
    obtain⟨xb,hxb⟩:∃ xb,w4.heap.size=xb:=⟨_,rfl⟩
    have HXB:=Lib.hid hxb
    have hbox:HeapIs (w4.alloc (.cells #[.int .i64 dn,.slice none 0 0] 60)) xb #[.int .i64 dn,.slice none 0 0] 60:=by rw[←hxb];exact HeapIs.new _ _ _
    have HBOX:=Lib.hid hbox
    have hal:w.heap.size≤xb:=by rw[←hxb];exact HT4.out.size
    have HAL:=Lib.hid hal
    rw[hxb]
    clear hbox hxb hg5 hg4 hpl hal
    go_loopw [9] (fun io w9=>∃ (k:Nat) (inv:Value),io=.int .i64 k∧1≤k∧k≤n∧HeapIs w9 xb #[.int .i64 dn,inv] 60∧OwnRow prcells 2 71 w.heap.size w9 inv ((r.take (k-1)).map pairW)∧RPa w0 pb params pl (phiN d r (k-1)) bv bl w9∧Turn (fun q=>q=pb) w w9) (fun io _=>n-(intOf io).toNat)
    case atStart=>exact⟨1,_,rfl,by omega,by omega,HBOX.out,OwnRow.nil _ _ _ _ _,HP4.out.keep ((Since.refl _).alloc _),HT4.out.alloc _⟩
    case round =>
     obtain⟨k,inv,rfl,hk1,hk,hx9,ho9,hp9,ht9⟩:=hrel
     obtain⟨ia,ic,hiv⟩:=own_shape ho9
     obtain⟨ps,hps⟩:∃ ps,(r.take (k-1)).map pairW=ps:=⟨_,rfl⟩
     rw[hps]at ho9 hiv
     obtain⟨il,hil⟩:∃ il,ps.length=il:=⟨_,rfl⟩
     have HPS:=Lib.hid hps
     rw[hil]at hiv
     subst hiv
     have hil2:il≤400000:=by rw[←hil,←hps,List.length_map,List.length_take];omega
     clear hps
     have HIL:=Lib.hid hil
     have HX9:=Lib.hid hx9
     have HO9:=Lib.hid ho9
     have HP9:=Lib.hid hp9
     have HT9:=Lib.hid ht9
     clear hil hx9 ho9 hp9 ht9
     by_cases hlt:k<n
     ·obtain⟨bx,off,x,rfl,hbx,hx,hc,hxs⟩:=StrsIn.at (HL.out _ wr (fun q hq=>.inl (.inl hq)) HT9.out) (by rw[List.length_cons,HNN.out];exact hlt)
      have hx':r[k-1]? = some x:=by rw[←hx];obtain⟨j,rfl⟩:∃ j,k=j+1:=⟨k-1,by omega⟩;rfl
      have HXX:=Lib.hid hx'
      have HCUT:=Lib.hid (rcut_any x wr hxs)
      have HSZ:=Lib.hid hxs
      obtain⟨cx,hcx⟩:∃ cx,colons x=cx:=⟨_,rfl⟩
      have HCX:=Lib.hid hcx
      clear hx hx' hxs hcx
      go_wp2_with fail
      refine HCUT.out.mono ?_
      rintro e5 w5 ⟨rfl,hs5⟩
      rw[HCX.out]
      have HS5:=Lib.hid hs5
      clear hs5 hc hbx
      obtain⟨fx,hfx⟩:∃ fx,front x=fx:=⟨_,rfl⟩
      obtain⟨gx,hgx⟩:∃ gx,behind x=gx:=⟨_,rfl⟩
      have h1:=frontB_len x
      have h2:=behindB_len x
      have HF2:=Lib.hid (show fx.size≤1000000∧gx.size≤1000000 from by have:=HSZ.out;rw[←hfx,←hgx];omega)
      rw[hfx,hgx]
      have HFX:=Lib.hid hfx
      have HGX:=Lib.hid hgx
      clear h1 h2 hfx hgx
      go_wp2_with fail
      have HS6:=Lib.hid (HS5.out.alloc (.cells #[.string fx,.string gx] 9))
      have HP6:=Lib.hid (HP9.out.keep HS6.out)
      have hpl5:pb<w5.heap.size:=Nat.lt_of_lt_of_le HP9.out.box.lt HS5.out.size
      have hst6:Stays (fun q=>q=pb) (w5.alloc (.cells #[.string fx,.string gx] 9)) (.slice (some ⟨w5.heap.size,0,none⟩) 2 2):=fun q hq=>by cases hq;exact⟨fun e=>by have e2:w5.heap.size=pb:=e;omega,(HeapIs.new w5 _ _).lt⟩
      refine (rnums25_any _ HP6.out _ [fx,gx] (strs_two w5 fx gx _ HF2.out.1 HF2.out.2) hst6 (by simp)).mono ?_
      rintro e7 w7 ⟨rv,rfl,hrow,hp7,ht7⟩
      rw[←HFX.out,←HGX.out,phiN_next HXX.out,show k-1+1=k+1-1 from by omega]at hp7
      have hpw:pb<w.heap.size:=H.out.box.lt
      have hx7:=(HX9.out.keep HS6.out).turn ht7 (by have:=HAL.out;omega)
      have ho7:=own_turn (OwnRow.keep HO9.out HS6.out) ht7 (fun q hq hr=>by have:=(World.ownsRow.lt HO9.out q hq).1;omega)
      have HT7:=Lib.hid ((HT9.out.later (Turn.since (S:=fun q=>q=pb) HS6.out) (fun q hq=>.inl hq)).trans ht7)
      obtain⟨na,hna⟩:∃ na,numW fx=na:=⟨_,rfl⟩
      obtain⟨nv,hnv⟩:∃ nv,numW gx=nv:=⟨_,rfl⟩
      obtain⟨nb,nc,rfl,hnc1,hnc2,hnb,hnbl,hc0,hc1⟩:=own_two (show w7.ownsRow _ _ 1 _ 2 [.int .i64 (numW fx),.int .i64 (numW gx)] from hrow)
      rw[hna]at hc0
      rw[hnv]at hc1
      have HNP:=Lib.hid (show (numW (front x),numW (behind x))=(na,nv) from by rw[HFX.out,HGX.out,hna,hnv])
      have HP7:=Lib.hid hp7
      have HX7:=Lib.hid hx7
      have HO7:=Lib.hid ho7
      have hq5:w5.heap.size<(w5.alloc (.cells #[.string fx,.string gx] 9)).heap.size:=(HeapIs.new w5 _ _).lt
      have HIN:=Lib.hid (show ¬ (Value.slice ia il ic).ownBlock=some pb∧¬ (Value.slice ia il ic).ownBlock=some xb∧¬ (Value.slice ia il ic).ownBlock=some nb from
       ⟨fun e=>by have:=(World.ownsRow.lt HO9.out pb e).1;omega,own_not ho7 hx7 (by decide),fun e=>by have:=(World.ownsRow.lt HO9.out nb e).2;have:=HS5.out.size;omega⟩)
      have HC0:=Lib.hid hc0
      have HC1:=Lib.hid hc1
      have HNBL:=Lib.hid hnbl
      have HPW:=Lib.hid hpw
      clear hrow hp7 ht7 hx7 ho7 hna hnv hc0 hc1 hnb hnbl hq5 hpl5 hst6 hpw hnc2
      go_wp2_with fail
      refine wp_region_one 11 10 [10] [0,0,0,0,0,0,0,0,0,0,0] [0,0,0,0,0,0,0,0,0,0,0] [0,0,0,0,0,0,0,0,0,0,1] (fun q=>(Value.slice ia il ic).ownBlock=some q) (fun p w8=>p=0→Since w7 w8) rfl (by decide +kernel) (by decide +kernel) (by decide +kernel) (by decide) (by decide +kernel)
       [Is (.pointer (some ⟨xb,1,none⟩)),Is (.slice ia il ic),Is (.slice (some ⟨nb,0,none⟩) 2 nc),Is (.pointer (some ⟨nb,0,none⟩)),Is (.int .i64 na),Is (.slice (some ⟨nb,0,none⟩) 2 nc),Is (.pointer (some ⟨nb,1,none⟩)),Is (.int .i64 nv),Is (.agg #[.int .i64 na,.int .i64 nv]),OneOf prcells 71 (fun q=>(Value.slice ia il ic).ownBlock=some q) (na,nv),AppOf prcells 2 71 w7 (.slice ia il ic) (ps++[(na,nv)])]
       (by repeat (first | exact trivial | refine⟨fun h=>absurd rfl h,?_⟩ | refine⟨fun _=>Is.stableT _ _,?_⟩ | refine⟨fun _=>Any.stableT _,?_⟩ | refine⟨fun _=>OneOf.stableT _ _ _ _,?_⟩)) (by repeat (first | exact trivial | refine⟨Is.stable _,?_⟩ | refine⟨Any.stable,?_⟩ | refine⟨OneOf.stable _ _ _ _,?_⟩ | refine⟨AppOf.stable _ _ _ _ _ _,?_⟩)) (fun _=>(Since.refl w7).drew) ⟨?_,?_,?_,?_,?_,?_,?_,?_,?_,?_,?_,trivial⟩ ?_
      rotate_right
      ·intro vs w8 ht hph hk
       simp only[List.take,List.drop,putAll,Act.put,KnowsAll,nthF,Is,List.setIfInBounds_toArray,List.set_cons_zero,List.set_cons_succ,Nat.reduceAdd]at hk ⊢
       try simp only[hk]
       obtain⟨wa,hsa,hta,hnew,hown⟩:AppOf prcells 2 71 w7 (.slice ia il ic) (ps++[(na,nv)]) (vs 10) w8:=by exact hk.2.2.2.2.2.2.2.2.2.2.1
       generalize vs 10=nw at *
       have hx8:=HX7.out.turn ht HIN.out.2.1
       have hb8:=HP7.out.box.turn ht HIN.out.1
       have hxl:=hx8.lt
       have hxf:=hx8.frozen
       have k1:w8.cell? ⟨xb,1,none⟩=some (.slice ia il ic):=hx8.cell 1
       have hlow:∀ q,nw.ownBlock=some q→w.heap.size≤q:=fun q hq=>by
        rcases hnew q hq with h1|h1
        ·exact (World.ownsRow.lt HO9.out q h1).1
        ·have:=HT7.out.size;have:=hsa.size;omega
       obtain⟨ja,jc,hjv⟩:=own_shape hown
       rw[List.length_append,HIL.out]at hjv
       subst hjv
       have HT8:=Lib.hid (HT7.out.later ht (fun q hq=>.inr (World.ownsRow.lt HO9.out q hq).1))
       have HX8:=Lib.hid hx8
       have HB8:=Lib.hid hb8
       have HOWN:=Lib.hid hown
       have HLOW:=Lib.hid hlow
       clear hk hph ht hsa hta hnew hx8 hb8 hown hlow
       go_wp2
       go_roundw
       case rel =>
        have hx:=HX8.out.set 1 (.slice ja (il+1) jc)
        have ht10:=HT8.out.later ((Turn.refl (fun q=>q=xb) w8).setCell (p:=⟨xb,1,none⟩) rfl (.slice ja (il+1) jc)) (fun q hq=>.inr (by subst hq;exact HAL.out))
        have hb10:=HB8.out.turn ((Turn.refl (fun q=>q=xb) w8).setCell (p:=⟨xb,1,none⟩) rfl (.slice ja (il+1) jc)) (fun e=>by have:=HPW.out;have:=HAL.out;omega)
        have ho10:=own_turn HOWN.out ((Turn.refl (fun q=>q=xb) w8).setCell (p:=⟨xb,1,none⟩) rfl (.slice ja (il+1) jc)) (fun q hq hr=>by subst hr;exact own_not HOWN.out HX8.out (by decide) hq)
        refine⟨k+1,.slice ja (il+1) jc,by go_num,by omega,by omega,hx,?_,H.out.reBox ht10 hb10,ht10⟩
        have e1:(r.take (k+1-1)).map pairW=ps++[(na,nv)]:=by
         have:=pairs_next HXX.out
         rw[show k-1+1=k+1-1 from by omega,HPS.out,HNP.out]at this
         exact this
        rw[e1]
        exact own_up ho10 HLOW.out
       case measure=>simp[intOf];omega
      all_goals
       intro p vs w8 hlo hhi ht hph hk
       simp only[List.take,putAll,Act.put,Knows,nthF,Is,List.setIfInBounds_toArray,List.set_cons_zero,List.set_cons_succ,Nat.reduceAdd]at hk ⊢
       try simp only[hk]
      ·go_wp2
       exact⟨_,rfl,rfl,Since.refl _,hph⟩
      ·have hx8:=HX7.out.turn ht HIN.out.2.1
       have k1:w8.cell? ⟨xb,1,none⟩=some (.slice ia il ic):=hx8.cell 1
       have k2:=hx8.lt
       go_wp2
       exact⟨_,rfl,rfl,Since.refl _,hph⟩
      ·go_wp2
       exact⟨_,rfl,rfl,Since.refl _,hph⟩
      ·go_wp2
       exact⟨_,rfl,rfl,Since.refl _,hph⟩
      ·have k1:w8.cell? ⟨nb,0,none⟩=some (.int .i64 na):=(ht.cell HNBL.out HIN.out.2.2).trans HC0.out
       have k2:nb<w8.heap.size:=Nat.lt_of_lt_of_le HNBL.out ht.size
       go_wp2
       exact⟨_,rfl,rfl,Since.refl _,hph⟩
      ·go_wp2
       exact⟨_,rfl,rfl,Since.refl _,hph⟩
      ·go_wp2
       exact⟨_,rfl,rfl,Since.refl _,hph⟩
      ·have k1:w8.cell? ⟨nb,1,none⟩=some (.int .i64 nv):=(ht.cell HNBL.out HIN.out.2.2).trans HC1.out
       have k2:nb<w8.heap.size:=Nat.lt_of_lt_of_le HNBL.out ht.size
       go_wp2
       exact⟨_,rfl,rfl,Since.refl _,hph⟩
      ·go_wp2
       exact⟨_,rfl,rfl,Since.refl _,hph⟩
      ·have hne:¬ (Value.slice ia il ic).ownBlock=some w8.heap.size:=fun e=>by have:=(World.ownsRow.lt HO7.out _ e).2;have:=ht.size;omega
       have hs2:=(Since.refl w8).alloc (.cells (prcells (na,nv)).toArray 71)
       have HP:=Lib.hid (fun (e:p=0)=>(hph e).trans hs2)
       clear hk hph
       go_wp2
       exact⟨_,rfl,⟨_,rfl,HeapIs.new _ _ _,hne⟩,hs2,HP.out⟩
      ·obtain rfl:p=0:=by omega
       have hs0:=hph rfl
       obtain⟨b1,hb1,hb2,hb3⟩:OneOf prcells 71 (fun q=>(Value.slice ia il ic).ownBlock=some q) (na,nv) (vs 9) w8:=hk.2.1
       simp only[hb1]
       have hrow:=OwnRow.keep HO7.out hs0
       have HS0:=Lib.hid hs0
       clear hk hph hs0 hb1
       refine wpList_append_one2 prcells 2 prcells_len (by decide) rfl _ _ 58 rfl 71 (.agg #[.int .i64 0,.int .i64 0]) 16 Tryz.underlying58 (by kernel_rfl) rfl (.slice ia il ic) _ (na,nv) b1 1 _ rfl rfl (OwnRow.low hrow) hb2 (by unfold prcells;simp[Value.oneCell']) (by rw[HIL.out];unfold maxLen;omega) (by rw[HIL.out];omega) (Nat.zero_le _) ?_
       intro v' w3 hown ht3 hnew
       have HA:=Lib.hid (show AppOf prcells 2 71 w7 (.slice ia il ic) (ps++[(na,nv)]) v' w3 from⟨w8,HS0.out,ht3,hnew,hown⟩)
       have HT3:=Lib.hid ht3
       clear hown ht3 hnew hrow hb2 hb3
       go_wp2
       exact⟨_,rfl,HA.out,HT3.out,fun e=>absurd e (by decide)⟩
     ·obtain rfl:n=k:=by omega
      have hrt:r.take (n-1)=r:=by rw[←HNN.out];exact List.take_of_length_le (by simp)
      have hps:=HPS.out
      rw[hrt]at hps
      have HPS:=Lib.hid hps
      clear hps
      rw[show n-1=r.length from by rw[←HNN.out];rfl]at HP9
      have hp9:=HP9.out
      have HBL:=Lib.hid (hp9.last b HB.out)
      have hpos:0<bl.length:=by
       rcases Nat.eq_zero_or_pos bl.length with h0|h0
       ·have:=(List.getElem?_eq_some_iff.1 HB.out).1;omega
       ·exact h0
      obtain⟨bb,bc,hbv,hbc,hbc2,_,hbbl,hbbs,hbcell⟩:=own_pos hp9.row hpos
      obtain⟨mm,hmm⟩:∃ mm,bl.length=mm+1:=⟨bl.length-1,by omega⟩
      rw[hmm]at hbv hb1 hbc
      subst hbv
      have hm1:bl.length-1=mm:=by omega
      obtain⟨pa,pc,hpv⟩:=own_shape HBL.out.phis
      obtain⟨pn,hpn⟩:∃ pn,b.phis.length=pn:=⟨_,rfl⟩
      rw[hpn]at hpv hb2
      have c1:wr.cell? ⟨pb,1,none⟩=some (.slice (some ⟨bb,0,none⟩) (mm+1) bc):=hp9.cell 1
      have c2:wr.cell? ⟨bb,mm*6,none⟩=some (.slice pa pn pc):=by
       rw[←hpv]
       refine hbcell (mm*6) b.phv ?_
       have h9:=flat_at fbcells 6 fbcells_len bl mm 0 b (by rw[←hm1];exact HB.out) (by decide)
       exact h9
      obtain⟨cur,hbbh⟩:=own_heap hp9.row (q:=bb) rfl
      have HBB:=Lib.hid (show HeapIs wr bb cur 57 from hbbh)
      have HROW:=Lib.hid (show OwnRow fpcells 2 60 0 wr (.slice pa pn pc) b.phis from by rw[←hpv];exact HBL.out.phis)
      have hpl:pb<wr.heap.size:=hp9.box.lt
      have HC1:=Lib.hid c1
      have HC2:=Lib.hid c2
      have HM1:=Lib.hid hm1
      have HPV:=Lib.hid hpv
      have HPN:=Lib.hid hpn
      have HMM:=Lib.hid hmm
      have HLT:=Lib.hid (show pb<wr.heap.size∧bb<wr.heap.size from⟨hpl,hbbl⟩)
      have HNO:=Lib.hid (show ¬ (Value.slice pa pn pc).ownBlock=some pb∧¬ (Value.slice pa pn pc).ownBlock=some bb∧¬ (Value.slice pa pn pc).ownBlock=some xb from by
       rw[←hpv]
       exact⟨own_not HBL.out.phis hp9.box (by decide),fun e=>own_ne HBL.out.phis hp9.row (by decide) bb e rfl,fun e=>by have:=H.out.lt xb (.inr (.inr ⟨b,HB.out,.inl e⟩));have:=HAL.out;omega⟩)
      clear hp9 hpos hbbl hbbs hbcell hm1 hpv hpn hmm hbc2 c2 hrt hbbh
      go_wp2_with fail
      clear c1 hpl
      refine wp_region_one 18 17 [17] [0,0,0,0,0,0,0,0,0,0,0,0,0,0,0,0,0,0] [1,1,1,1,1,1,0,0,0,0,0,0,0,0,0,0,0,0] [0,0,0,0,0,0,0,0,0,0,0,0,0,0,0,0,0,1] (fun q=>(Value.slice pa pn pc).ownBlock=some q) (fun p w8=>p=0→Since wr w8) rfl (by decide +kernel) (by decide +kernel) (by decide +kernel) (by decide) (by decide +kernel)
       [Is (.pointer (some ⟨pb,0,none⟩)),Is (.pointer (some ⟨pb,0,none⟩)),Is (.pointer (some ⟨pb,0,none⟩)),Is (.pointer (some ⟨pb,1,none⟩)),Is (.slice (some ⟨bb,0,none⟩) (mm+1) bc),Is (.int .i64 mm),Is (.pointer (some ⟨pb,0,none⟩)),Is (.pointer (some ⟨pb,0,none⟩)),Is (.pointer (some ⟨pb,0,none⟩)),Is (.pointer (some ⟨pb,1,none⟩)),Is (.slice (some ⟨bb,0,none⟩) (mm+1) bc),Is (.int .i64 mm),Is (.pointer (some ⟨bb,mm*6,none⟩)),Is (.pointer (some ⟨bb,mm*6,none⟩)),Is (Value.slice pa pn pc),Is (.agg #[.int .i64 dn,.slice ia il ic]),OneOf fpcells 60 (fun q=>(Value.slice pa pn pc).ownBlock=some q) (⟨dn,ps,.slice ia il ic⟩:FPhi),AppOf fpcells 2 60 wr (Value.slice pa pn pc) (b.phis++[(⟨dn,ps,.slice ia il ic⟩:FPhi)])]
       (by repeat (first | exact trivial | refine⟨fun h=>absurd rfl h,?_⟩ | refine⟨fun _=>Is.stableT _ _,?_⟩ | refine⟨fun _=>Any.stableT _,?_⟩ | refine⟨fun _=>OneOf.stableT _ _ _ _,?_⟩)) (by repeat (first | exact trivial | refine⟨Is.stable _,?_⟩ | refine⟨Any.stable,?_⟩ | refine⟨OneOf.stable _ _ _ _,?_⟩ | refine⟨AppOf.stable _ _ _ _ _ _,?_⟩)) (fun _=>(Since.refl wr).drew) ⟨?_,?_,?_,?_,?_,?_,?_,?_,?_,?_,?_,?_,?_,?_,?_,?_,?_,?_,trivial⟩ ?_
      rotate_right
      ·intro vs w8 ht hph hk
       simp only[List.take,List.drop,putAll,Act.put,KnowsAll,nthF,Is,List.setIfInBounds_toArray,List.set_cons_zero,List.set_cons_succ,Nat.reduceAdd]at hk ⊢
       try simp only[hk]
       obtain⟨wa,hsa,hta,hnew,hown⟩:AppOf fpcells 2 60 wr (Value.slice pa pn pc) (b.phis++[(⟨dn,ps,.slice ia il ic⟩:FPhi)]) (vs 17) w8:=by exact hk.2.2.2.2.2.2.2.2.2.2.2.2.2.2.2.2.2.1
       generalize vs 17=nw at *
       obtain⟨ja,jc,hjv⟩:=own_shape hown
       rw[List.length_append,HPN.out]at hjv
       subst hjv
       have hbb8:=HBB.out.turn ht HNO.out.2.1
       have hbl8:=hbb8.lt
       have hbf8:=hbb8.frozen
       have k1:w8.cell? ⟨bb,mm*6,none⟩=some (Value.slice pa pn pc):=(ht.cell HLT.out.2 HNO.out.2.1).trans HC2.out
       have HOWN:=Lib.hid hown
       have HT8:=Lib.hid ht
       have HTA:=Lib.hid hta
       have HSA:=Lib.hid hsa
       have HNEW:=Lib.hid hnew
       clear hk hph ht hsa hta hnew hbb8 hown
       go_wp2
       go_end0
       have hbl:=HBL.out
       have hphi:PhiOk (PaS w0 pb (.slice (some ⟨bb,0,none⟩) (mm+1) bc) bl) wr (⟨dn,ps,.slice ia il ic⟩:FPhi):=⟨row_of_own prcells_len HO9.out (fun _ _=>trivial),fun q hq=>⟨fun h=>by have:=H.out.ltS q h;have:=(World.ownsRow.lt HO9.out q hq).1;omega,(World.ownsRow.lt HO9.out q hq).2⟩⟩
       have hins:=own_turn hbl.ins HT8.out (fun q hq hr=>own_ne hbl.ins hbl.phis (by decide) q hq (by rw[HPV.out];exact hr))
       have hnp:NewOr wr b.phv (.slice ja (pn+1) jc):=fun q hq=>by
        rcases HNEW.out q hq with h1|h1
        ·exact .inl (by rw[HPV.out];exact h1)
        ·have:=HSA.out.size;exact .inr (by omega)
       have hup:=PaM.upd HP9.out (b':={ b with phis:=b.phis++[⟨dn,ps,.slice ia il ic⟩],phv:=.slice ja (pn+1) jc }) HB.out (bb:=bb) (cap:=bc) (by rw[HMM.out]) (w1:=w8) (HT8.out.mono (fun q _ hq=>.inl (by rw[HPV.out];exact hq))) 0 (by decide) (.slice ja (pn+1) jc) rfl HOWN.out hins hnp (fun q hq=>.inl hq) (fun p hp=>by rcases List.mem_append.1 hp with h1 | h1;exact hbl.phi p h1;rw[List.mem_singleton.1 h1];exact hphi) hbl.inx hbl.term
       rw[HM1.out]at hup
       refine⟨rfl,phiN d r r.length,_,hup,?_,?_⟩
       ·refine ((HT9.out.mono fun q _ hq=>.inl hq:Turn (PaOwn pb _ bl) w wr).trans (HT8.out.mono fun q _ hq=>.inr (.inr ⟨b,HB.out,.inl (by rw[HPV.out];exact hq)⟩))).setCell ?_ _
        exact .inr (.inl rfl)
       ·rw[HGD.out,phiN_all]
        cases hok:(isNum d&&r.all isPair)
        ·exact⟨rfl,by decide⟩
        ·refine⟨rfl,rfl,?_⟩
         have:=last_set (b':={ b with phis:=b.phis++[⟨dn,ps,.slice ia il ic⟩],phv:=.slice ja (pn+1) jc }) HB.out ⟨params,bl.map FBlk.d,pl⟩ rfl (fun b=>⟨b.phis++[⟨numW d,r.map pairW⟩],b.ins,b.term⟩) (by rw[HDN.out,HPS.out];simp[FBlk.d,FPhi.d])
         rw[HM1.out]at this
         exact this
      all_goals
       intro p vs w8 hlo hhi ht hph hk
       simp only[List.take,putAll,Act.put,Knows,nthF,Is,List.setIfInBounds_toArray,List.set_cons_zero,List.set_cons_succ,Nat.reduceAdd]at hk ⊢
       try simp only[hk]
      ·go_wp2
       exact⟨_,rfl,rfl,Since.refl _,hph⟩
      ·go_wp2
       exact⟨_,rfl,rfl,Since.refl _,hph⟩
      ·go_wp2
       exact⟨_,rfl,rfl,Since.refl _,hph⟩
      ·go_wp2
       exact⟨_,rfl,rfl,Since.refl _,hph⟩
      ·have k1:w8.cell? ⟨pb,1,none⟩=some (.slice (some ⟨bb,0,none⟩) (mm+1) bc):=(ht.cell HLT.out.1 HNO.out.1).trans HC1.out
       have k2:pb<w8.heap.size:=Nat.lt_of_lt_of_le HLT.out.1 ht.size
       go_wp2
       exact⟨_,rfl,rfl,Since.refl _,hph⟩
      ·go_wp2
       exact⟨_,rfl,rfl,Since.refl _,hph⟩
      ·go_wp2
       exact⟨_,rfl,rfl,Since.refl _,hph⟩
      ·go_wp2
       exact⟨_,rfl,rfl,Since.refl _,hph⟩
      ·go_wp2
       exact⟨_,rfl,rfl,Since.refl _,hph⟩
      ·go_wp2
       exact⟨_,rfl,rfl,Since.refl _,hph⟩
      ·have k1:w8.cell? ⟨pb,1,none⟩=some (.slice (some ⟨bb,0,none⟩) (mm+1) bc):=(ht.cell HLT.out.1 HNO.out.1).trans HC1.out
       have k2:pb<w8.heap.size:=Nat.lt_of_lt_of_le HLT.out.1 ht.size
       go_wp2
       exact⟨_,rfl,rfl,Since.refl _,hph⟩
      ·go_wp2
       exact⟨_,rfl,rfl,Since.refl _,hph⟩
      ·go_wp2
       exact⟨_,rfl,rfl,Since.refl _,hph⟩
      ·go_wp2
       exact⟨_,rfl,rfl,Since.refl _,hph⟩
      ·have k1:w8.cell? ⟨bb,mm*6,none⟩=some (Value.slice pa pn pc):=(ht.cell HLT.out.2 HNO.out.2.1).trans HC2.out
       have k2:bb<w8.heap.size:=Nat.lt_of_lt_of_le HLT.out.2 ht.size
       go_wp2
       exact⟨_,rfl,rfl,Since.refl _,hph⟩
      ·have hbx:=HX9.out.turn ht HNO.out.2.2
       clear hk
       refine wpList_load_row rfl _ _ rfl xb rfl 60 _ (0,0) _ hbx Tryz.underlying60 rfl (by kernel_rfl) ?_
       go_wp2
       exact⟨_,rfl,rfl,Since.refl _,hph⟩
      ·have hne:¬ (Value.slice pa pn pc).ownBlock=some w8.heap.size:=fun e=>by have:=(World.ownsRow.lt HROW.out _ e).2;have:=ht.size;omega
       have hs2:=(Since.refl w8).alloc (.cells (fpcells (⟨dn,ps,.slice ia il ic⟩:FPhi)).toArray 60)
       have HP:=Lib.hid (fun (e:p=0)=>(hph e).trans hs2)
       clear hk hph
       go_wp2
       exact⟨_,rfl,⟨_,rfl,HeapIs.new _ _ _,hne⟩,hs2,HP.out⟩
      ·obtain rfl:p=0:=by omega
       have hs0:=hph rfl
       obtain⟨b1,hb3,hb4,hb5⟩:OneOf fpcells 60 (fun q=>(Value.slice pa pn pc).ownBlock=some q) (⟨dn,ps,.slice ia il ic⟩:FPhi) (vs 16) w8:=hk.2.1
       simp only[hb3]
       have hrow:=OwnRow.keep HROW.out hs0
       have HS0:=Lib.hid hs0
       clear hk hph hs0 hb3
       refine wpList_append_one2 fpcells 2 fpcells_len (by decide) rfl _ _ 55 rfl 60 (.agg #[.int .i64 0,.slice none 0 0]) 32 Tryz.underlying55 (by kernel_rfl) rfl (Value.slice pa pn pc) _ (⟨dn,ps,.slice ia il ic⟩:FPhi) b1 1 _ rfl rfl hrow hb4 (by unfold fpcells;simp[Value.oneCell']) (by rw[HPN.out];unfold maxLen;omega) (by rw[HPN.out];omega) (Nat.zero_le _) ?_
       intro v' w3 hown ht3 hnew
       have HA:=Lib.hid (show AppOf fpcells 2 60 wr (Value.slice pa pn pc) (b.phis++[(⟨dn,ps,.slice ia il ic⟩:FPhi)]) v' w3 from⟨w8,HS0.out,ht3,hnew,hown⟩)
       have HT3:=Lib.hid ht3
       clear hown ht3 hnew hrow hb4 hb5
       go_wp2
       exact⟨_,rfl,HA.out,HT3.out,fun e=>absurd e (by decide)⟩
   ·obtain⟨hq1,hq2⟩:=phi_bad (d:=d) (r:=r) ⟨params,bl.map FBlk.d,pl⟩ (by rw[HNN.out];exact hg)
    rw[HNN.out]at hq2
    rw[hq2]at c3
    rw[hq2]at HP2
    have HBD:=Lib.hid hq1
    clear hg hq1 hq2 hlt
    go_wp2
    go_end0
    exact⟨rfl,70,bl,HP2.out,HT2.out.mono (fun q _ hq=>.inl hq),by rw[HBD.out];exact⟨rfl,by decide⟩⟩
end
end Go.Proofs.YtmhojfpidedjeaaGreatDoor
