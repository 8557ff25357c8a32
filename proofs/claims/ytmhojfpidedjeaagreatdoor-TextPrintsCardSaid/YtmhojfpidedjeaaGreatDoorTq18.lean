/- The program's term: the walk. Laws of runs over a map of texts whose entries are written out. -/
import Derived.Test.YtmhojfpidedjeaaGreatDoorTq17
namespace Go.Proofs.YtmhojfpidedjeaaGreatDoor
open Go.RowKit
set_option linter.unusedVariables false
attribute [local simp] fresh_nil fresh_cons intKeys_nil intKeys_cons
def TermTQ (w0:World) (pb:Nat) (tv:Value) (params pl:Int) (bv:Value) (bl:List FBlk) (k:Int) (l:List ByteArray) (w:World) (x:Ending) (w':World):Prop:=
 x=.returned (.tuple #[])∧∃ e' bl',TPa w0 pb tv params pl e' bv bl' w'∧Turn (PaOwn pb bv bl) w w'∧PaAns (termSt ⟨params,bl.map FBlk.d,pl⟩ k l) e' params bl'
def termsOf (n:Nat):List MapEntry:=[{ key:=.int .i64 1,val:=.agg #[.int .i64 1,.int .i64 1],born:=0 },{ key:=.int .i64 2,val:=.agg #[.int .i64 3,.int .i64 3],born:=1 },{ key:=.int .i64 3,val:=.agg #[.int .i64 2,.int .i64 n],born:=2 },{ key:=.int .i64 4,val:=.agg #[.int .i64 0,.int .i64 1],born:=3 },{ key:=.int .i64 5,val:=.agg #[.int .i64 1,.int .i64 1],born:=4 }]
theorem terms_look (k:Int) (n:Nat) (h:1≤k∧k≤5):(look k (termsOf n)).getD (.agg #[.int .i64 0,.int .i64 0])=.agg #[.int .i64 (tleast k),.int .i64 (tmost k n)]:=by
 unfold termsOf
 simp only[look_cons,look_nil]
 have:k=1∨k=2∨k=3∨k=4∨k=5:=by omega
 rcases this with rfl|rfl|rfl|rfl|rfl<;>rfl
structure TrmPh (xb:Nat) (w6:World) (cs:Array Value) (w8:World):Prop where
 t:Turn (fun q=>q=xb) w6 w8
 b:HeapIs w8 xb cs 54
section
variable {w0:World} {pb:Nat} {tv:Value} {params pl:Int} {bv:Value} {bl:List FBlk}
set_option maxHeartbeats 4000000 in
set_option maxRecDepth 100000 in
theorem term_raw (w:World) (h:TPa w0 pb tv params pl 0 bv bl w) (hL:LaidT w0) (kind:Int) (hop:1≤kind∧kind≤5) (v:Value) (l:List ByteArray) (hl:StrsIn w v l) (hst:Stays (PaOwn pb bv bl) w v) (hn:l.length≤400000) (b:FBlk) (hb:bl[bl.length-1]? = some b) (hb1:bl.length≤1000000):Calls Tryz.prog 80 #[.pointer (some ⟨pb,0,none⟩),.int .i64 kind,v] w (TermTQ w0 pb tv params pl bv bl kind l w):=by
 obtain⟨a,c,e1,_⟩:=RowIn.shape hl
 obtain⟨n,hnn⟩:∃ n,l.length=n:=⟨_,rfl⟩
 rw[hnn]at e1
 subst e1
 have hmm:=@run_makeMap Tryz.prog
 have hup:=@run_mapUpdate_new Tryz.prog _ _ _ Tryz.underlying167 Tryz.underlying3
 have hlk:=@run_lookup_one Tryz.prog _ _ _ Tryz.underlying167 Tryz.underlying3 _ zero_pair
 have hl1:=terms_look kind n hop
 unfold termsOf at hl1
 have H:=Lib.hid h
 have HLT0:=Lib.hid hL
 have HL:=Lib.hid (fun (S:Nat→Prop) w' (hS:∀ q,S q→PaOwn pb bv bl q∨w.heap.size≤q) (t:Turn S w w')=>(RowIn.turn hl t (fun q hq hr=>by rcases hS q hr with h1 | h1;exact (hst q hq).1 h1;have:=(hst q hq).2;omega) (fun _ _ h=>h):StrsIn w' _ l))
 have HST:=Lib.hid hst
 have HB:=Lib.hid hb
 have HNN:=Lib.hid hnn
 rw[hnn]at hn
 have HK:=Lib.hid hop
 have htb:=term_bounds kind n hop
 obtain⟨L,hLL⟩:∃ L,tleast kind=L:=⟨_,rfl⟩
 obtain⟨M,hMM⟩:∃ M,tmost kind n=M:=⟨_,rfl⟩
 rw[hLL,hMM]at hl1 htb
 obtain⟨hL3,hL4,hM5⟩:=htb
 have HL4:=Lib.hid hL4
 have HLM:=Lib.hid (And.intro hLL hMM)
 have HSW:=Lib.hid (fun (o:Obj) (cs:Array Value) (T:TypeId)=>(((Since.refl w).alloc o).alloc (.cells cs T):Since w ((w.alloc o).alloc (.cells cs T))))
 clear hLL hMM hL4 hop h hl hst hb hnn hL
 go_enter Tryz.func80,Tryz.ntmps80
 by_cases hbad:n<L∨M<n
 ·have HBAD:=Lib.hid (show termSt ⟨params,bl.map FBlk.d,pl⟩ kind l=.error 70 from by
   unfold termSt;rw[if_neg];rw[HNN.out,HLM.out.1,HLM.out.2];omega)
  have hfin:∀ w5 w',Since w w5→TPa w0 pb tv params pl 70 bv bl w'→Turn (fun q=>q=pb) w5 w'→TermTQ w0 pb tv params pl bv bl kind l w (.returned (.tuple #[])) w':=fun w5 w' hs h1 h2=>⟨rfl,70,bl,h1,((Turn.since (S:=fun q=>q=pb) hs).trans h2).mono (fun q _ hq=>.inl hq),by rw[HBAD.out];exact⟨rfl,by decide⟩⟩
  have HFIN:=Lib.hid hfin
  clear hfin
  by_cases hlow:n<L
  ·clear hbad
   go_wp2_with fail
   refine (must_any _ (H.out.keep (HSW.out _ _ _)) _ 70 (by decide)).mono ?_
   rintro e1 w1 ⟨rfl,hp,ht⟩
   have HF:=Lib.hid (HFIN.out _ w1 (HSW.out _ _ _) hp ht)
   clear hp ht hl1 hmm hup hlk
   go_wp2
   go_end0
   exact HF.out
  ·have hhi:M<n:=by omega
   have hge:L≤n:=by omega
   clear hbad hlow
   go_wp2_with fail
   refine (must_any _ (H.out.keep (HSW.out _ _ _)) _ 70 (by decide)).mono ?_
   rintro e1 w1 ⟨rfl,hp,ht⟩
   rw[failE_b (by first | rfl | (simp;omega))]at hp ⊢
   have HF:=Lib.hid (HFIN.out _ w1 (HSW.out _ _ _) hp ht)
   clear hp ht hl1 hmm hup hlk
   go_wp2
   go_end0
   exact HF.out
 ·have hgood:L≤n∧n≤M:=by omega
  have hg1:=hgood.1
  have hg2:=hgood.2
  clear hbad
  go_wp2_with fail
  refine (must_any _ (H.out.keep (HSW.out _ _ _)) _ 70 (by decide)).mono ?_
  rintro e1 w1 ⟨rfl,hp,ht⟩
  rw[failE_g (by first | rfl | (simp;omega))]at hp ⊢
  have HP:=Lib.hid hp
  have HT:=Lib.hid ((Turn.since (S:=fun q=>q=pb) (HSW.out _ _ _)).trans ht)
  clear hp ht hl1 hmm hup hlk
  go_wp2_with fail
  have hs1:Stays (fun q=>q=pb) w1 (.slice a n c):=HST.out.mono (fun q hq=>.inl (.inl hq)) HT.out.size
  refine (nums_any w1 HP.out HLT0.out _ l (HL.out _ w1 (fun q hq=>.inl (.inl hq)) HT.out) hs1 (by rw[HNN.out];omega)).mono ?_
  rintro e4 w4 ⟨rv,rfl,hrow,hp4,ht4⟩
  obtain⟨ns,hns⟩:∃ ns,numsW l=ns:=⟨_,rfl⟩
  have hnsl:ns.length=n:=by rw[←hns,←HNN.out];unfold numsW;simp
  rw[hns,hnsl]at hrow
  obtain⟨ra,rc,hrv⟩:=own_shape hrow
  subst hrv
  have HNS:=Lib.hid hns
  have HNSL:=Lib.hid hnsl
  have HROWN:=Lib.hid hrow
  have HP4:=Lib.hid hp4
  have HT4:=Lib.hid (HT.out.trans ht4)
  clear hrow hp4 ht4 hns hnsl hs1
  go_upto_region 6 with (fail)
  obtain⟨xb,hxb⟩:∃ xb,w4.heap.size=xb:=⟨_,rfl⟩
  have hbox:HeapIs (w4.alloc (.cells #[.int .i64 kind,.slice none 0 0,.slice none 0 0,.int .i32 0] 54)) xb #[.int .i64 kind,.slice none 0 0,.slice none 0 0,.int .i32 0] 54:=by rw[←hxb];exact HeapIs.new _ _ _
  have HAL:=Lib.hid (show w.heap.size≤xb from by rw[←hxb];exact HT4.out.size)
  have HPX:=Lib.hid (show pb<xb from by have:=H.out.box.lt;have:=HAL.out;omega)
  obtain⟨w5,hw5⟩:∃ w5,w4.alloc (.cells #[.int .i64 kind,.slice none 0 0,.slice none 0 0,.int .i32 0] 54)=w5:=⟨_,rfl⟩
  have hs5:Since w4 w5:=by rw[←hw5];exact (Since.refl _).alloc _
  rw[hw5]at hbox
  rw[hxb,hw5]
  have HBOX:=Lib.hid hbox
  have HT5:=Lib.hid (HT4.out.later (Turn.since (S:=fun q=>q=pb) hs5) (fun q hq=>.inl hq))
  have HB5:=Lib.hid (HP4.out.box.keep hs5)
  have HANS:Hid (termSt ⟨params,bl.map FBlk.d,pl⟩ kind l=if areNums l then .ok ⟨params,onLast ⟨params,bl.map FBlk.d,pl⟩ (fun b=>⟨b.phis,b.ins,termOf kind (numsW l)⟩),1⟩ else .error 71):=Lib.hid (by
   unfold termSt;rw[if_pos];rw[HNN.out,HLM.out.1,HLM.out.2];exact hgood)
  have HOWN5:=Lib.hid (own_keep HROWN.out hs5)
  have HNG:=Lib.hid (show ∀ q,(Value.slice ra n rc).ownBlock=some q→¬ (PaS w0 pb bv bl q∨q=xb)∧q<w5.heap.size from fun q hq=>⟨fun h=>by
   have h1:=World.ownsRow.lt HROWN.out q hq
   rcases h with h|h
   ·have:=H.out.ltS q h;have:=HT.out.size;omega
   ·omega,(World.ownsRow.lt HOWN5.out q hq).2⟩)
  have HN32:=Lib.hid (show ∀ y∈ns,In32W y from fun y hy=>by rw[←HNS.out]at hy;unfold numsW at hy;obtain⟨z,_,rfl⟩:=List.mem_map.1 hy;exact numW_32 z)
  clear hbox hxb hs5 hw5
  rename_i K1 aK1 K2 aK2
  have HAK:=Lib.hid aK1
  have HJ:Hid (∀ {u1 u2 u3 u4 u5 u6 u7 u9 u10 u11 u12 u13 u14 u15 u16 u17 u18 u19 u20 u21 u22 u23 u24 u25 u26 u27 u28 u29 u30 u31 u32 u33 u34 u35 u36 u37 u38 u39 u40 u41 u42 u43 u44 u45 u46 u47 u48 u49 u50 u51 u52 u53 u54 u55 u56 u57 u58 u59 u60 u61 u62 u63 u64 u65 u66:Value} {w9:World} (X:FTerm),HeapIs w9 xb (ftcells X).toArray 54→Turn (fun q=>q=xb) w5 w9→TermOk (fun q=>PaS w0 pb bv bl q∨q=xb) w5 X→FTerm.d X=termOf kind ns→K1 ⟨(Value.pointer (some ⟨pb,0,none⟩)::u1::u2::u3::u4::u5::u6::u7::Value.pointer (some ⟨xb,0,none⟩)::u9::u10::u11::u12::u13::u14::u15::u16::u17::u18::u19::u20::u21::u22::u23::u24::u25::u26::u27::u28::u29::u30::u31::u32::u33::u34::u35::u36::u37::u38::u39::u40::u41::u42::u43::u44::u45::u46::u47::u48::u49::u50::u51::u52::u53::u54::u55::u56::u57::u58::u59::u60::u61::u62::u63::u64::u65::u66::[]).toArray,[]⟩ w9):=by
   clear aK1 aK2
   apply Lib.hid
   intro u1 u2 u3 u4 u5 u6 u7 u9 u10 u11 u12 u13 u14 u15 u16 u17 u18 u19 u20 u21 u22 u23 u24 u25 u26 u27 u28 u29 u30 u31 u32 u33 u34 u35 u36 u37 u38 u39 u40 u41 u42 u43 u44 u45 u46 u47 u48 u49 u50 u51 u52 u53 u54 u55 u56 u57 u58 u59 u60 u61 u62 u63 u64 u65 u66 w9 X hx9 ht hxo hxd
   refine HAK.out _ _ ?_
   have ht9:=HT5.out.later ht (fun q hq=>.inr (by subst hq;exact HAL.out))
   have hp9:=H.out.reBox ht9 (HB5.out.turn ht (fun e=>by have:=HPX.out;omega))
   have HT9:=Lib.hid ht9
   have HP9:=Lib.hid hp9
   have HX9:=Lib.hid hx9
   have hxo9:=hxo.turn ht (S':=PaS w0 pb bv bl) (fun q hq=>.inr hq) (fun q hq=>.inl (.inl hq))
   have HXO:=Lib.hid hxo9
   have HONE:=Lib.hid (show (#[Value.int .i64 X.kind,X.argsv,X.tov,.int .i32 X.imm]:Array Value).all (·.oneCell')=true from by
    obtain⟨za,zc,ze⟩:=nums_lenI hxo9.read.1
    obtain⟨ya,yc,ye⟩:=nums_lenI hxo9.read.2
    rw[ze,ye];simp[Value.oneCell'])
   have HXD:=Lib.hid hxd
   have HBL:=Lib.hid (hp9.last b HB.out)
   have hpos:0<bl.length:=by
    rcases Nat.eq_zero_or_pos bl.length with h0|h0
    ·have:=(List.getElem?_eq_some_iff.1 HB.out).1;omega
    ·exact h0
   obtain⟨bb,bc,hbv,hbc,hbc2,_,hbbl,hbbs,hbcell⟩:=own_pos hp9.row hpos
   obtain⟨mm,hmm⟩:∃ mm,bl.length=mm+1:=⟨bl.length-1,by omega⟩
   rw[hmm]at hbv hb1 hbc
   subst hbv
   have hm1:bl.length-1=mm:=by omega
   have c1:w9.cell? ⟨pb,1,none⟩=some (.slice (some ⟨bb,0,none⟩) (mm+1) bc):=hp9.cell 1
   have hpl:pb<w9.heap.size:=hp9.box.lt
   have HTHERE:=Lib.hid (show ∀ w':World,Since w9 w'→w'.there bb (mm*6+2) 4 from fun w' hs=>by
    have h1:OwnRow fbcells 6 57 0 w' (.slice (some ⟨bb,0,none⟩) (mm+1) bc) bl:=OwnRow.keep hp9.row hs
    unfold OwnRow at h1
    rw[hmm]at h1
    exact own_there h1 (by rw[flat_len fbcells 6 fbcells_len,hmm];omega))
   have HC1:=Lib.hid c1
   have HM1:=Lib.hid hm1
   have HMM:=Lib.hid hmm
   have HLT:=Lib.hid (show pb<w9.heap.size∧bb<w9.heap.size from⟨hpl,hbbl⟩)
   clear hp9 hpos hbbl hbbs hbcell hm1 hmm hbc2 hx9 ht hxo hxd ht9 hxo9 c1 hpl
   go_wp2_with fail
   refine wp_region_since_tail 3 rfl (by decide +kernel) (by decide +kernel) (by decide +kernel) (by decide)
    [Is (.pointer (some ⟨pb,0,none⟩)),Is (.pointer (some ⟨bb,mm*6,none⟩)),Is (fterm X)]
    (by repeat (first | exact trivial | refine⟨Is.stable _,?_⟩ | refine⟨Any.stable,?_⟩)) ⟨?_,?_,?_,trivial⟩ ?_
   rotate_right
   ·intro vs w8 hs hk
    simp only[List.take,List.drop,putAll,Act.put,KnowsAll,nthF,Is,List.setIfInBounds_toArray,List.set_cons_zero,List.set_cons_succ,Nat.reduceAdd]at hk ⊢
    try simp only[hk]
    have HS:=Lib.hid hs
    have hth:=HTHERE.out _ hs
    clear hs hk
    go_wp2_with (refine wpList_store_mid rfl 54 _ _ rfl bb (mm*6+2) #[.int .i64 X.kind,X.argsv,X.tov,.int .i32 X.imm] rfl rfl hth (by kernel_rfl) HONE.out ?_)
    go_end0
    have hp8:=HP9.out.keep HS.out
    have hbl:=HBL.out
    have tc:Turn (fun q=>q=bb) w8 (w8.setCells bb (mm*6+2) [.int .i64 X.kind,X.argsv,X.tov,.int .i32 X.imm]):=
     ((((Turn.refl (fun q=>q=bb) w8).setCell (p:=⟨bb,mm*6+2,none⟩) rfl _).setCell (p:=⟨bb,mm*6+3,none⟩) rfl _).setCell (p:=⟨bb,mm*6+4,none⟩) rfl _).setCell (p:=⟨bb,mm*6+5,none⟩) rfl _
    have hl8:=hp8.last b HB.out
    have hup:=PaM.updG hp8 (b':={ b with term:=X }) HB.out (bb:=bb) (cap:=bc) (by rw[HMM.out]) (Turn.refl _ _) tc (fun hr=>by
     have e:mm+1=bl.length:=HMM.out.symm
     rw[e]at hr ⊢
     rw[HM1.out]
     exact own_setTerm hr (by rw[←HM1.out];exact HB.out) X) hl8.phis hl8.ins (fun q hq=>.inl hq) (fun q hq=>.inl hq) hl8.phi hl8.inx (HXO.out.turn (R:=fun _=>False) (Turn.since HS.out) (fun _ h=>h.elim) (fun q hq=>.inl hq))
    rw[HM1.out]at hup
    refine⟨rfl,numsE 0 l,_,hup,?_,?_⟩
    ·exact ((HT9.out.mono fun q _ hq=>.inl hq:Turn (PaOwn pb _ bl) w w9).trans (Turn.since HS.out)).trans (tc.mono fun q _ hq=>.inr (.inl (by rw[hq];rfl)))
    ·rw[HANS.out]
     unfold numsE
     cases hok:areNums l
     ·exact⟨rfl,by decide⟩
     ·refine⟨rfl,rfl,?_⟩
      have:=last_set (b':={ b with term:=X }) HB.out ⟨params,bl.map FBlk.d,pl⟩ rfl (fun b=>⟨b.phis,b.ins,termOf kind (numsW l)⟩) (by rw[HNS.out,←HXD.out];simp[FBlk.d])
      rw[HM1.out]at this
      exact this
   all_goals
    intro vs w8 hs hk _
    simp only[List.take,putAll,Act.put,Knows,nthF,Is,List.setIfInBounds_toArray,List.set_cons_zero,List.set_cons_succ,Nat.reduceAdd]at hk ⊢
    try simp only[hk]
   ·go_wp2
    exact⟨_,rfl,rfl,Since.refl _⟩
   ·have k1:w8.cell? ⟨pb,1,none⟩=some (.slice (some ⟨bb,0,none⟩) (mm+1) bc):=(hs.cell (p:=⟨pb,1,none⟩) HLT.out.1).trans HC1.out
    have k2:pb<w8.heap.size:=Nat.lt_of_lt_of_le HLT.out.1 hs.size
    clear hk
    go_wp2_with fail
    refine (last_any w8 k1 k2 (by omega)).mono ?_
    rintro e3 w3 ⟨rfl,hs3⟩
    have HS3:=Lib.hid hs3
    clear hs3 k1
    go_wp2
    exact⟨_,rfl,rfl,HS3.out⟩
   ·have hbx:=HX9.out.keep hs
    clear hk
    refine wpList_load_row rfl _ _ rfl xb rfl 54 _ (0,0) _ hbx Tryz.underlying54 rfl (by kernel_rfl) ?_
    go_wp2
    exact⟨_,rfl,rfl,Since.refl _⟩
  clear aK1 HAK HB HANS
  have hbl:=HBOX.out.lt
  have hbf:=HBOX.out.frozen
  by_cases h1:kind=1
  ·subst h1
   have k2:=HBOX.out.cell 2
   go_wp2
   refine HJ.out ⟨1,[],.slice none 0 0,ns,.slice ra n rc,0⟩ (HBOX.out.set 2 _) ((Turn.refl (fun q=>q=xb) w5).setCell (p:=⟨xb,2,none⟩) rfl _) ?_ ?_
   ·exact⟨⟨.nil _ _,ints_own (by rw[HNSL.out];exact HOWN5.out)⟩,Stays.nil _ _,HNG.out⟩
   ·simp[termOf,FTerm.d]
  ·skip
   by_cases h2:kind=2
   ·subst h2
    obtain⟨rfl,rfl⟩:L=3∧M=3:=⟨HLM.out.1.symm,HLM.out.2.symm⟩
    obtain⟨g,gc,hgv,hgn,hgm,hg3,hgl,_,hgc⟩:=own_pos HOWN5.out (by omega)
    cases hgv
    have HGC5:=Lib.hid hgc
    have HG4:=Lib.hid hgl
    have HG2:=Lib.hid hgm
    clear hgc hgm hg3
    obtain⟨qa,hqa⟩:∃ qa,(if rc=1 then some (⟨g,0,none⟩:Addr) else some ⟨g,1,none⟩)=qa:=⟨_,rfl⟩
    have hqg:rc≠1:=by omega
    rw[if_neg hqg]at hqa
    subst hqa
    go_wp2_with fail
    refine wp_region_phases [5,7] [0,0,0,0,0,0,1,1] [0,0,1,1,0,0,1,1] [0,0,0,0,0,1,0,1] (fun p w8=>TrmPh xb w5 (([#[.int .i64 2,.slice none 0 0,.slice none 0 0,.int .i32 0],#[.int .i64 2,.slice (some ⟨g,0,none⟩) 1 1,.slice none 0 0,.int .i32 0],#[.int .i64 2,.slice (some ⟨g,0,none⟩) 1 1,.slice (some ⟨g,1,none⟩) (n-1) (rc-1),.int .i32 0]]:List (Array Value)).getD p #[]) w8) rfl (by decide +kernel) (by decide +kernel) (by decide +kernel)
     [Is (.slice (some ⟨g,0,none⟩) n rc),Is (.slice (some ⟨g,0,none⟩) 1 1),Is (.slice (some ⟨g,0,none⟩) n rc),Is (.slice (some ⟨g,1,none⟩) (n-1) (rc-1)),Is (.pointer (some ⟨xb,1,none⟩)),Any,Is (.pointer (some ⟨xb,2,none⟩)),Any]
     (by repeat (first | exact trivial | refine⟨Is.fixed _,?_⟩ | refine⟨Any.fixed,?_⟩)) ⟨Turn.since ((Since.refl w5).drew),HBOX.out.keep ((Since.refl w5).drew)⟩ ⟨?_,?_,?_,?_,?_,?_,?_,?_,trivial⟩ ?_
    rotate_right
    ·intro vs w8 _ hph hk
     simp only[putAll,Act.put,KnowsAll,nthF,Is,Any,List.setIfInBounds_toArray,List.set_cons_zero,List.set_cons_succ,Nat.reduceAdd,List.length_cons,List.length_nil]at hk ⊢
     try simp only[hk]
     have HB8:=Lib.hid (show HeapIs w8 xb #[.int .i64 2,.slice (some ⟨g,0,none⟩) 1 1,.slice (some ⟨g,1,none⟩) (n-1) (rc-1),.int .i32 0] 54 from hph.b)
     have HT8:=Lib.hid hph.t
     clear hph hk
     go_wp2
     refine HJ.out ⟨2,ns.take 1,.slice (some ⟨g,0,none⟩) 1 1,ns.drop 1,.slice (some ⟨g,1,none⟩) (n-1) (rc-1),0⟩ HB8.out HT8.out ?_ ?_
     ·exact⟨⟨ints_part HGC5.out HG4.out 0 1 1 (by rw[HNSL.out];omega) (by omega) (by decide),ints_part2 HGC5.out HG4.out 1 (n-1) (rc-1) (by rw[HNSL.out];omega) (by rw[HNSL.out]) (by omega) (by have:=HG2.out;omega)⟩,fun q hq=>HNG.out q (by cases hq;rfl),fun q hq=>HNG.out q (by cases hq;rfl)⟩
     ·simp[termOf,FTerm.d]
    all_goals
     intro p vs w8 hlo hhi _ hph hk
     simp only[putAll,Act.put,Knows,nthF,Is,Any,List.setIfInBounds_toArray,List.set_cons_zero,List.set_cons_succ,Nat.reduceAdd]at hk ⊢
     try simp only[hk]
    ·go_wp2
     exact⟨_,rfl,rfl,trivial,hph⟩
    ·go_wp2
     exact⟨_,rfl,rfl,trivial,hph⟩
    ·go_wp2
     exact⟨_,rfl,rfl,trivial,hph⟩
    ·go_wp2
     exact⟨_,rfl,rfl,trivial,hph⟩
    ·go_wp2
     exact⟨_,rfl,rfl,trivial,hph⟩
    ·obtain rfl:p=0:=by omega
     have hb8:HeapIs w8 xb #[.int .i64 2,.slice none 0 0,.slice none 0 0,.int .i32 0] 54:=hph.b
     have z1:=hb8.cell 1
     have hbl8:=hb8.lt
     have hbf8:=hb8.frozen
     have HB8:=Lib.hid hb8
     have HT8:=Lib.hid hph.t
     clear hph hb8 hlo hhi
     go_wp2
     exact⟨undef,rfl,trivial,trivial,⟨HT8.out.setCell (p:=⟨xb,1,none⟩) rfl _,HB8.out.set 1 _⟩⟩
    ·go_wp2
     exact⟨_,rfl,rfl,trivial,hph⟩
    ·obtain rfl:p=1:=by omega
     have hb8:HeapIs w8 xb #[.int .i64 2,.slice (some ⟨g,0,none⟩) 1 1,.slice none 0 0,.int .i32 0] 54:=hph.b
     have z1:=hb8.cell 2
     have hbl8:=hb8.lt
     have hbf8:=hb8.frozen
     have HB8:=Lib.hid hb8
     have HT8:=Lib.hid hph.t
     clear hph hb8 hlo hhi
     go_wp2
     exact⟨undef,rfl,trivial,trivial,⟨HT8.out.setCell (p:=⟨xb,2,none⟩) rfl _,HB8.out.set 2 _⟩⟩
   ·skip
    by_cases h3:kind=3
    ·subst h3
     obtain rfl:L=2:=HLM.out.1.symm
     obtain⟨g,gc,hgv,hgn,hgm,hg3,hgl,_,hgc⟩:=own_pos HOWN5.out (by omega)
     cases hgv
     have HGC5:=Lib.hid hgc
     have HG4:=Lib.hid hgl
     have HG2:=Lib.hid hgm
     clear hgc hgm hg3
     obtain⟨qa,hqa⟩:∃ qa,(if rc=1 then some (⟨g,0,none⟩:Addr) else some ⟨g,1,none⟩)=qa:=⟨_,rfl⟩
     have hqg:rc≠1:=by omega
     rw[if_neg hqg]at hqa
     subst hqa
     go_wp2_with fail
     refine wp_region_phases [5,7] [0,0,0,0,0,0,1,1] [0,0,1,1,0,0,1,1] [0,0,0,0,0,1,0,1] (fun p w8=>TrmPh xb w5 (([#[.int .i64 3,.slice none 0 0,.slice none 0 0,.int .i32 0],#[.int .i64 3,.slice (some ⟨g,0,none⟩) 1 1,.slice none 0 0,.int .i32 0],#[.int .i64 3,.slice (some ⟨g,0,none⟩) 1 1,.slice (some ⟨g,1,none⟩) (n-1) (rc-1),.int .i32 0]]:List (Array Value)).getD p #[]) w8) rfl (by decide +kernel) (by decide +kernel) (by decide +kernel)
      [Is (.slice (some ⟨g,0,none⟩) n rc),Is (.slice (some ⟨g,0,none⟩) 1 1),Is (.slice (some ⟨g,0,none⟩) n rc),Is (.slice (some ⟨g,1,none⟩) (n-1) (rc-1)),Is (.pointer (some ⟨xb,1,none⟩)),Any,Is (.pointer (some ⟨xb,2,none⟩)),Any]
      (by repeat (first | exact trivial | refine⟨Is.fixed _,?_⟩ | refine⟨Any.fixed,?_⟩)) ⟨Turn.since ((Since.refl w5).drew),HBOX.out.keep ((Since.refl w5).drew)⟩ ⟨?_,?_,?_,?_,?_,?_,?_,?_,trivial⟩ ?_
     rotate_right
     ·intro vs w8 _ hph hk
      simp only[putAll,Act.put,KnowsAll,nthF,Is,Any,List.setIfInBounds_toArray,List.set_cons_zero,List.set_cons_succ,Nat.reduceAdd,List.length_cons,List.length_nil]at hk ⊢
      try simp only[hk]
      have HB8:=Lib.hid (show HeapIs w8 xb #[.int .i64 3,.slice (some ⟨g,0,none⟩) 1 1,.slice (some ⟨g,1,none⟩) (n-1) (rc-1),.int .i32 0] 54 from hph.b)
      have HT8:=Lib.hid hph.t
      clear hph hk
      go_wp2
      refine HJ.out ⟨3,ns.take 1,.slice (some ⟨g,0,none⟩) 1 1,ns.drop 1,.slice (some ⟨g,1,none⟩) (n-1) (rc-1),0⟩ HB8.out HT8.out ?_ ?_
      ·exact⟨⟨ints_part HGC5.out HG4.out 0 1 1 (by rw[HNSL.out];omega) (by omega) (by decide),ints_part2 HGC5.out HG4.out 1 (n-1) (rc-1) (by rw[HNSL.out];omega) (by rw[HNSL.out]) (by omega) (by have:=HG2.out;omega)⟩,fun q hq=>HNG.out q (by cases hq;rfl),fun q hq=>HNG.out q (by cases hq;rfl)⟩
      ·simp[termOf,FTerm.d]
     all_goals
      intro p vs w8 hlo hhi _ hph hk
      simp only[putAll,Act.put,Knows,nthF,Is,Any,List.setIfInBounds_toArray,List.set_cons_zero,List.set_cons_succ,Nat.reduceAdd]at hk ⊢
      try simp only[hk]
     ·go_wp2
      exact⟨_,rfl,rfl,trivial,hph⟩
     ·go_wp2
      exact⟨_,rfl,rfl,trivial,hph⟩
     ·go_wp2
      exact⟨_,rfl,rfl,trivial,hph⟩
     ·go_wp2
      exact⟨_,rfl,rfl,trivial,hph⟩
     ·go_wp2
      exact⟨_,rfl,rfl,trivial,hph⟩
     ·obtain rfl:p=0:=by omega
      have hb8:HeapIs w8 xb #[.int .i64 3,.slice none 0 0,.slice none 0 0,.int .i32 0] 54:=hph.b
      have z1:=hb8.cell 1
      have hbl8:=hb8.lt
      have hbf8:=hb8.frozen
      have HB8:=Lib.hid hb8
      have HT8:=Lib.hid hph.t
      clear hph hb8 hlo hhi
      go_wp2
      exact⟨undef,rfl,trivial,trivial,⟨HT8.out.setCell (p:=⟨xb,1,none⟩) rfl _,HB8.out.set 1 _⟩⟩
     ·go_wp2
      exact⟨_,rfl,rfl,trivial,hph⟩
     ·obtain rfl:p=1:=by omega
      have hb8:HeapIs w8 xb #[.int .i64 3,.slice (some ⟨g,0,none⟩) 1 1,.slice none 0 0,.int .i32 0] 54:=hph.b
      have z1:=hb8.cell 2
      have hbl8:=hb8.lt
      have hbf8:=hb8.frozen
      have HB8:=Lib.hid hb8
      have HT8:=Lib.hid hph.t
      clear hph hb8 hlo hhi
      go_wp2
      exact⟨undef,rfl,trivial,trivial,⟨HT8.out.setCell (p:=⟨xb,2,none⟩) rfl _,HB8.out.set 2 _⟩⟩
    ·skip
     by_cases h4:kind=4
     ·subst h4
      have k1:=HBOX.out.cell 1
      go_wp2
      refine HJ.out ⟨4,ns,.slice ra n rc,[],.slice none 0 0,0⟩ (HBOX.out.set 1 _) ((Turn.refl (fun q=>q=xb) w5).setCell (p:=⟨xb,1,none⟩) rfl _) ?_ ?_
      ·exact⟨⟨ints_own (by rw[HNSL.out];exact HOWN5.out),.nil _ _⟩,HNG.out,Stays.nil _ _⟩
      ·simp[termOf,FTerm.d]
     ·skip
      obtain h5:kind=5:=by have:=HK.out;omega
      subst h5
      obtain⟨rfl,rfl⟩:L=1∧M=1:=⟨HLM.out.1.symm,HLM.out.2.symm⟩
      obtain rfl:n=1:=by omega
      obtain⟨g,gc,hgv,hgn,hgm,hg3,hgl,_,hgc⟩:=own_pos HOWN5.out (by omega)
      cases hgv
      have HGC5:=Lib.hid hgc
      have HG4:=Lib.hid hgl
      have HG2:=Lib.hid hgm
      clear hgc hgm hg3
      obtain⟨x0,rfl⟩:=list1 HNSL.out
      have c0:w5.cell? ⟨g,0,none⟩=some (.int .i64 x0):=HGC5.out 0 _ rfl
      have wr0:wrap32 x0=x0:=wrap32_of (HN32.out x0 (by simp))
      have k3:=HBOX.out.cell 3
      go_wp2
      refine HJ.out ⟨5,[],.slice none 0 0,[],.slice none 0 0,x0⟩ (HBOX.out.set 3 _) ((Turn.refl (fun q=>q=xb) w5).setCell (p:=⟨xb,3,none⟩) rfl _) ?_ ?_
      ·exact⟨⟨.nil _ _,.nil _ _⟩,Stays.nil _ _,Stays.nil _ _⟩
      ·simp[termOf,FTerm.d]
end
def freshS (s:ByteArray):List MapEntry→Bool
 | []=>true
 | e::r=>match e.key with
  | .string m=>!(s==m)&&freshS s r
  | _=>false
def lookS (s:ByteArray):List MapEntry→Option Value
 | []=>none
 | e::r=>match e.key with
  | .string m=>if s==m then some e.val else lookS s r
  | _=>none
def strKeys:List MapEntry→Bool
 | []=>true
 | e::r=>match e.key with
  | .string _=>strKeys r
  | _=>false
theorem freshS_nil (s:ByteArray):freshS s []=true:=Eq.trans (Eq.refl _) (Eq.refl true)
theorem freshS_cons (s m:ByteArray) (v:Value) (b:Nat) (r:List MapEntry):freshS s ({ key:=.string m,val:=v,born:=b }::r)=(!(s==m)&&freshS s r):=Eq.trans (Eq.refl _) (Eq.refl _)
theorem lookS_nil (s:ByteArray):lookS s []=none:=Eq.trans (Eq.refl _) (Eq.refl _)
theorem lookS_cons (s m:ByteArray) (v:Value) (b:Nat) (r:List MapEntry):lookS s ({ key:=.string m,val:=v,born:=b }::r)=if s==m then some v else lookS s r:=Eq.trans (Eq.refl _) (Eq.refl _)
theorem findNow_freshS (s:ByteArray):∀ (l:List MapEntry) (i:Nat),freshS s l=true→Instr.findNow .string (.string s) l i=some none
 | [],_,_=>rfl
 | e::r,i,h=>by
  unfold freshS at h
  split at h
  ·rename_i m hm
   simp at h
   have hb:(s==m)=false:=by simpa using h.1
   simp[Instr.findNow,hm,Instr.sameNow,hb,findNow_freshS s r _ h.2]
  ·cases h
theorem findNow_lookS (s:ByteArray) (v:Value):∀ (l:List MapEntry) (i:Nat),lookS s l=some v→∃ j,Instr.findNow .string (.string s) l i=some (some (j,v))
 | [],_,h=>by cases h
 | e::r,i,h=>by
  unfold lookS at h
  split at h
  ·rename_i m hm
   cases hb:s==m with
   | true=>rw[hb]at h;simp at h;exact⟨i,by simp[Instr.findNow,hm,Instr.sameNow,hb,h]⟩
   | false =>
    rw[hb]at h
    obtain⟨j,hj⟩:=findNow_lookS s v r (i+1) (by simpa using h)
    exact⟨j,by simp[Instr.findNow,hm,Instr.sameNow,hb,hj]⟩
  ·cases h
theorem lookS_fresh (s:ByteArray):∀ l:List MapEntry,strKeys l=true→lookS s l=none→freshS s l=true
 | [],_,_=>rfl
 | e::r,h,hl=>by
  unfold strKeys at h
  split at h
  ·rename_i m hm
   unfold lookS at hl
   rw[hm]at hl
   unfold freshS
   rw[hm]
   cases hb:s==m with
   | true=>simp[hb]at hl
   | false =>
    simp only[hb]at hl ⊢
    simpa using lookS_fresh s r h (by simpa using hl)
  ·cases h
theorem run_mapUpdate_newS {P : Program} {t K E:TypeId} (ht:P.underlying t=some (.map K E)) (hK:P.underlying K=some .string) (w:World) (es:List MapEntry) (b c:Nat) (s:ByteArray) (v:Value) (hs:b=w.heap.size) (hf:freshS s es=true) :
  (Instr.mapUpdate t (.map (some b)) (.string s) v).run P (w.alloc (.map es.toArray c))=.ok () (w.alloc (.map (es++[({ key:=.string s,val:=v,born:=c }:MapEntry)]).toArray (c+1))):=by
 subst hs
 have hb:=(MapKept.heap_alloc w (.map es.toArray c)).1
 have hkey:MapKept.IsKey .string (.string s):=trivial
 have hf':Instr.findNow .string (.string s) es.toArray.toList 0=some none:=findNow_freshS s es 0 hf
 simp only[Instr.mapUpdate,Sem.run_bind,run_underlying ht,Result.andThen,MapKept.run_getObj_map hb,MapKept.run_checkKey hK hkey,MapKept.run_findKey hK hf',MapKept.run_setObj_map _ hb]
 rw[alloc_set];simp
theorem run_lookupS {P : Program} {t K E:TypeId} (ht:P.underlying t=some (.map K E)) (hK:P.underlying K=some .string) (z:Value) (hz:∀ w:World,(zeroValue E).run P w=.ok z w) (w:World) (es:List MapEntry) (b c:Nat) (s:ByteArray) (hb:w.heap[b]? = some (.map es.toArray c)) (hi:strKeys es=true) :
  (Instr.lookup t (.map (some b)) (.string s) true).run P w=.ok (.tuple #[(lookS s es).getD z,.bool (lookS s es).isSome]) w:=by
 have hkey:MapKept.IsKey .string (.string s):=trivial
 cases hl:lookS s es with
 | none =>
  have hf':Instr.findNow .string (.string s) es.toArray.toList 0=some none:=findNow_freshS s es 0 (lookS_fresh s es hi hl)
  simp[Instr.lookup,run_underlying ht,MapKept.run_getObj_map hb,MapKept.run_checkKey hK hkey,MapKept.run_findKey hK hf',hz,Result.andThen]
 | some v =>
  obtain⟨j,hj⟩:=findNow_lookS s v es.toArray.toList 0 hl
  simp[Instr.lookup,run_underlying ht,MapKept.run_getObj_map hb,MapKept.run_checkKey hK hkey,MapKept.run_findKey hK hj,Result.andThen]
theorem zero_test (w:World):(zeroValue 26).run Tryz.prog w=.ok .nilFunc w:=by kernel_rfl
end Go.Proofs.YtmhojfpidedjeaaGreatDoor
