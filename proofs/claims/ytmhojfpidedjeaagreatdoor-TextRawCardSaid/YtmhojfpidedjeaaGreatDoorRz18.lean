/- The document's term: the walk. -/
import Derived.Test.YtmhojfpidedjeaaGreatDoorRz17
import Derived.Deep.MidRow
namespace Go.Proofs.YtmhojfpidedjeaaGreatDoor
open Go.RowKit
set_option linter.unusedVariables false
theorem ints_own {w : World} {base:Nat} {e : TypeId} {v : Value} {l : List Int} (h:w.ownsRow base e 1 v l.length (l.map (Value.int .i64))):Ints w v l:=by
 have hh:=h
 obtain⟨_,h1|⟨g,cap,cur,h1,h2,h3,h4,h5,_⟩⟩:=h
 ·exact .inl ⟨none,h1.1,List.eq_nil_of_length_eq_zero h1.2⟩
 ·subst h1
  have hl:=World.ownsRow.lt hh g rfl
  have hc:=World.ownsRow.cells hh (g:=g) rfl
  refine .inr ⟨g,0,cap,rfl,h4,h5,hl.2,fun j n hj=>?_⟩
  have:=hc j (.int .i64 n) (by rw[List.getElem?_map,hj];rfl)
  rw[Nat.zero_add]
  unfold Addr.add at this
  split at this
  ·rename_i h0;subst h0;exact this
  ·simpa using this
theorem own_there {w : World} {base:Nat} {e : TypeId} {sz n g cap:Nat} {xs:List Value} (h:w.ownsRow base e sz (.slice (some ⟨g,0,none⟩) n cap) n xs) {o k:Nat} (ho:o+k≤xs.length):w.there g o k:=by
 obtain⟨cur,hc⟩:=own_heap h (q:=g) rfl
 intro i hi
 refine⟨?_,HeapIs.frozen (show HeapIs w g cur e from hc) _⟩
 have h9:=World.ownsRow.cells h (g:=g) rfl (o+i) xs[o+i] (List.getElem?_eq_getElem (by omega))
 unfold Addr.add at h9
 split at h9
 ·rename_i h0;rw[h0];rw[h9];rfl
 ·simp only[Nat.zero_add]at h9;rw[h9];rfl
theorem own_setTerm {w : World} {g cap mm:Nat} {bl:List FBlk} {b : FBlk} (h:OwnRow fbcells 6 57 0 w (.slice (some ⟨g,0,none⟩) bl.length cap) bl) (hb:bl[mm]? = some b) (t:FTerm):OwnRow fbcells 6 57 0 (w.setCells g (mm*6+2) [.int .i64 t.kind,t.argsv,t.tov,.int .i32 t.imm]) (.slice (some ⟨g,0,none⟩) bl.length cap) (bl.set mm { b with term:=t }):=by
 have e:w.setCells g (mm*6+2) [.int .i64 t.kind,t.argsv,t.tov,.int .i32 t.imm]=(((w.setCell ⟨g,mm*6+2,none⟩ (.int .i64 t.kind)).setCell ⟨g,mm*6+3,none⟩ t.argsv).setCell ⟨g,mm*6+4,none⟩ t.tov).setCell ⟨g,mm*6+5,none⟩ (.int .i32 t.imm):=rfl
 rw[e]
 have hlt:mm<bl.length:=(List.getElem?_eq_some_iff.1 hb).1
 have q:∀ x:FBlk,(bl.set mm x)[mm]? = some x:=fun x=>by rw[List.getElem?_set_self hlt]
 have h1:=own_setCell h (mm*6+2) (.int .i64 t.kind)
 rw[flat_set fbcells 6 fbcells_len bl mm 2 b { b with term:={ b.term with kind:=t.kind } } (.int .i64 t.kind) hb (by decide) rfl]at h1
 have h2:=own_setCell h1 (mm*6+3) t.argsv
 rw[flat_set fbcells 6 fbcells_len _ mm 3 { b with term:={ b.term with kind:=t.kind } } { b with term:={ b.term with kind:=t.kind,argsv:=t.argsv } } t.argsv (q _) (by decide) rfl,List.set_set]at h2
 have h3:=own_setCell h2 (mm*6+4) t.tov
 rw[flat_set fbcells 6 fbcells_len _ mm 4 { b with term:={ b.term with kind:=t.kind,argsv:=t.argsv } } { b with term:={ b.term with kind:=t.kind,argsv:=t.argsv,tov:=t.tov } } t.tov (q _) (by decide) rfl,List.set_set]at h3
 have h4:=own_setCell h3 (mm*6+5) (.int .i32 t.imm)
 rw[flat_set fbcells 6 fbcells_len _ mm 5 { b with term:={ b.term with kind:=t.kind,argsv:=t.argsv,tov:=t.tov } } { b with term:=t } (.int .i32 t.imm) (q _) (by decide) rfl,List.set_set]at h4
 unfold OwnRow
 rw[List.length_set]
 exact h4
theorem term_bounds (k:Int) (n:Nat) (h:1≤k∧k≤5):tleast k≤3∧(k≠4→1≤tleast k)∧tmost k n≤n+3:=by
 unfold tleast tmost
 have:k=1∨k=2∨k=3∨k=4∨k=5:=by omega
 rcases this with rfl|rfl|rfl|rfl|rfl<;>simp
def fterm (t:FTerm):Value:=.agg #[.int .i64 t.kind,t.argsv,t.tov,.int .i32 t.imm]
def ArrL:Value:=.agg #[.int .i64 0,.int .i64 1,.int .i64 3,.int .i64 2,.int .i64 0,.int .i64 1]
def ArrM (n:Nat):Value:=.agg #[.int .i64 0,.int .i64 1,.int .i64 3,.int .i64 n,.int .i64 1,.int .i64 1]
set_option maxRecDepth 100000 in
theorem Tryz.arrL (w:World) (k:Int) (h:1≤k∧k≤5):Sem.run Tryz.prog (Instr.index 183 ArrL (.int .i64 k)) w=.ok (.int .i64 (tleast k)) w:=by
 have:k=1∨k=2∨k=3∨k=4∨k=5:=by omega
 rcases this with rfl|rfl|rfl|rfl|rfl<;>rfl
set_option maxRecDepth 100000 in
theorem Tryz.arrM (w:World) (k:Int) (n:Nat) (h:1≤k∧k≤5):Sem.run Tryz.prog (Instr.index 183 (ArrM n) (.int .i64 k)) w=.ok (.int .i64 (tmost k n)) w:=by
 have:k=1∨k=2∨k=3∨k=4∨k=5:=by omega
 rcases this with rfl|rfl|rfl|rfl|rfl<;>rfl
theorem list1 {α:Type} {l : List α} (h:l.length=1):∃ a,l=[a]:=by
 match l,h with
 | [a],_=>exact⟨a,rfl⟩
section
variable {w0:World} {pb:Nat} {params pl:Int} {bv:Value} {bl:List FBlk}
def TermPQ (w0:World) (pb:Nat) (params pl:Int) (bv:Value) (bl:List FBlk) (k:Int) (l:List ByteArray) (w:World) (x:Ending) (w':World):Prop:=
 x=.returned (.tuple #[])∧∃ e' bl',RPa w0 pb params pl e' bv bl' w'∧Turn (PaOwn pb bv bl) w w'∧PaAns (termSt ⟨params,bl.map FBlk.d,pl⟩ k l) e' params bl'
set_option maxHeartbeats 1000000 in
set_option maxRecDepth 100000 in
theorem rterm_raw (w:World) (h:RPa w0 pb params pl 0 bv bl w) (kind:Int) (hop:1≤kind∧kind≤5) (v:Value) (l:List ByteArray) (hl:StrsIn w v l) (hst:Stays (PaOwn pb bv bl) w v) (hn:l.length≤400000) (b:FBlk) (hb:bl[bl.length-1]? = some b) (hb1:bl.length≤1000000):Calls Tryz.prog 93 #[.pointer (some ⟨pb,0,none⟩),.int .i64 kind,v] w (TermPQ w0 pb params pl bv bl kind l w):=by
 obtain⟨a,c,e1,_⟩:=RowIn.shape hl
 obtain⟨n,hnn⟩:∃ n,l.length=n:=⟨_,rfl⟩
 rw[hnn]at e1
 subst e1
 have H:=Lib.hid h
 have HL:=Lib.hid (fun (S:Nat→Prop) w' (hS:∀ q,S q→PaOwn pb bv bl q∨w.heap.size≤q) (t:Turn S w w')=>(RowIn.turn hl t (fun q hq hr=>by rcases hS q hr with h1 | h1;exact (hst q hq).1 h1;have:=(hst q hq).2;omega) (fun _ _ h=>h):StrsIn w' _ l))
 have HST:=Lib.hid hst
 have HB:=Lib.hid hb
 have HNN:=Lib.hid hnn
 rw[hnn]at hn
 clear h hl hst hb hnn
 have HK:=Lib.hid hop
 have hi1:=Tryz.arrL w kind hop
 have hi2:=Tryz.arrM w kind n hop
 have htb:=term_bounds kind n hop
 obtain⟨L,hL⟩:∃ L,tleast kind=L:=⟨_,rfl⟩
 obtain⟨M,hM⟩:∃ M,tmost kind n=M:=⟨_,rfl⟩
 rw[hL]at hi1 htb
 rw[hM]at hi2
 rw[hM]at htb
 obtain⟨hL3,hL4,hM5⟩:=htb
 have HL4:=Lib.hid hL4
 have HLM:=Lib.hid (And.intro hL hM)
 clear hL hM hL4 hop
 unfold ArrL at hi1
 unfold ArrM at hi2
 go_enter Tryz.func93,Tryz.ntmps93
 by_cases hbad:n<L∨M<n
 ·have HBAD:=Lib.hid (show termSt ⟨params,bl.map FBlk.d,pl⟩ kind l=.error 70 from by
   unfold termSt;rw[if_neg];rw[HNN.out,HLM.out.1,HLM.out.2];omega)
  have hfin:∀ w',RPa w0 pb params pl 70 bv bl w'→Turn (fun q=>q=pb) w w'→TermPQ w0 pb params pl bv bl kind l w (.returned (.tuple #[])) w':=fun w' h1 h2=>⟨rfl,70,bl,h1,h2.mono (fun q _ hq=>.inl hq),by rw[HBAD.out];exact⟨rfl,by decide⟩⟩
  have HFIN:=Lib.hid hfin
  clear hfin
  by_cases hlow:n<L
  ·go_wp2_with fail
   refine (rfail_any w H.out _ 70).mono ?_
   rintro e1 w1 ⟨rfl,hp,ht⟩
   rw[failE_t (by first | rfl | (simp;omega))]at hp
   have c3:w1.cell? ⟨pb,3,none⟩=some (.int .i64 70):=hp.cell 3
   have hpl:=hp.box.lt
   have HF:=Lib.hid (HFIN.out w1 hp ht)
   clear hp ht hi1 hi2
   go_wp2
   go_end0
   exact HF.out
  ·have hhi:M<n:=by omega
   go_wp2_with fail
   refine (rfail_any w H.out _ 70).mono ?_
   rintro e1 w1 ⟨rfl,hp,ht⟩
   rw[failE_t (by first | rfl | (simp;omega))]at hp
   have c3:w1.cell? ⟨pb,3,none⟩=some (.int .i64 70):=hp.cell 3
   have hpl:=hp.box.lt
   have HF:=Lib.hid (HFIN.out w1 hp ht)
   clear hp ht hi1 hi2
   go_wp2
   go_end0
   exact HF.out
 ·have hgood:L≤n∧n≤M:=by omega
  clear hbad
  go_wp2_with fail
  refine (rfail_any w H.out _ 70).mono ?_
  rintro e1 w1 ⟨rfl,hp,ht⟩
  rw[failE_f (by first | rfl | (simp;omega))]at hp
  have c3:w1.cell? ⟨pb,3,none⟩=some (.int .i64 0):=hp.cell 3
  have hpl:=hp.box.lt
  have HP:=Lib.hid hp
  have HT:=Lib.hid ht
  clear hp ht hi1 hi2
  go_wp2_with fail
  have hs1:Stays (fun q=>q=pb) w1 (.slice a n c):=HST.out.mono (fun q hq=>.inl (.inl hq)) HT.out.size
  refine (rnums25_any w1 HP.out _ l (HL.out _ w1 (fun q hq=>.inl (.inl hq)) HT.out) hs1 (by rw[HNN.out];omega)).mono ?_
  rintro e4 w4 ⟨rv,rfl,hrow,hp4,ht4⟩
  obtain⟨ns,hns⟩:∃ ns,numsW l=ns:=⟨_,rfl⟩
  have hnsl:ns.length=n:=by rw[←hns,←HNN.out];unfold numsW;simp
  rw[hns,hnsl]at hrow
  obtain⟨ra,rc,hrv⟩:=own_shape hrow
  subst hrv
  have HNS:=Lib.hid hns
  have HNSL:=Lib.hid hnsl
  have HROWN:=Lib.hid hrow
  have HP4:=Lib.hid hp4
  have HT4:=Lib.hid (HT.out.trans ht4)
  clear hrow hp4 ht4 hns hnsl hs1 c3 hpl
  go_upto_region 8 with (fail)
  obtain⟨xb,hxb⟩:∃ xb,w4.heap.size=xb:=⟨_,rfl⟩
  have hbox:HeapIs (w4.alloc (.cells #[.int .i64 kind,.slice none 0 0,.slice none 0 0,.int .i32 0] 54)) xb #[.int .i64 kind,.slice none 0 0,.slice none 0 0,.int .i32 0] 54:=by rw[←hxb];exact HeapIs.new _ _ _
  have HAL:=Lib.hid (show w.heap.size≤xb from by rw[←hxb];exact HT4.out.size)
  have HPX:=Lib.hid (show pb<xb from by have:=H.out.box.lt;have:=HAL.out;omega)
  obtain⟨w5,hw5⟩:∃ w5,w4.alloc (.cells #[.int .i64 kind,.slice none 0 0,.slice none 0 0,.int .i32 0] 54)=w5:=⟨_,rfl⟩
  have hs5:Since w4 w5:=by rw[←hw5];exact (Since.refl _).alloc _
  rw[hw5]at hbox
  rw[hxb,hw5]
  have HBOX:=Lib.hid hbox
  have HT5:=Lib.hid (HT4.out.later (Turn.since (S:=fun q=>q=pb) hs5) (fun q hq=>.inl hq))
  have HB5:=Lib.hid (HP4.out.box.keep hs5)
  have HANS:Hid (termSt ⟨params,bl.map FBlk.d,pl⟩ kind l=if areNums l then .ok ⟨params,onLast ⟨params,bl.map FBlk.d,pl⟩ (fun b=>⟨b.phis,b.ins,termOf kind (numsW l)⟩),1⟩ else .error 71):=Lib.hid (by
   unfold termSt;rw[if_pos];rw[HNN.out,HLM.out.1,HLM.out.2];exact hgood)
  have HOWN5:=Lib.hid (own_keep HROWN.out hs5)
  have HNG:=Lib.hid (show ∀ q,(Value.slice ra n rc).ownBlock=some q→¬ (PaS w0 pb bv bl q∨q=xb)∧q<w5.heap.size from fun q hq=>⟨fun h=>by
   have h1:=World.ownsRow.lt HROWN.out q hq
   rcases h with h|h
   ·have:=H.out.ltS q h;have:=HT.out.size;omega
   ·omega,(World.ownsRow.lt HOWN5.out q hq).2⟩)
  have HN32:=Lib.hid (show ∀ y∈ns,In32W y from fun y hy=>by rw[←HNS.out]at hy;unfold numsW at hy;obtain⟨z,_,rfl⟩:=List.mem_map.1 hy;exact numW_32 z)
  clear hbox hxb hs5 hw5
  rename_i K1 aK1 K2 aK2
  have HAK:=Lib.hid aK1
  have HJ:Hid (∀ {u1 u2 u3 u4 u5 u6 u7 u8 u10 u11 u12 u13 u14 u15 u16 u17 u18 u19 u20 u21 u22 u23 u24 u25 u26 u27 u28 u29 u30 u31 u32 u33 u34 u35 u36 u37 u38 u39 u40 u41 u42 u43 u44 u45 u46 u47 u48 u49 u50 u51 u52 u53 u54 u55 u56 u57 u58 u59 u60 u61 u62 u63 u64 u65 u66 u67 u68 u69 u70 u71 u72 u73 u74 u75 u76 u77:Value} {w9:World} (X:FTerm),HeapIs w9 xb (ftcells X).toArray 54→Turn (fun q=>q=xb) w5 w9→TermOk (fun q=>PaS w0 pb bv bl q∨q=xb) w5 X→FTerm.d X=termOf kind ns→K1 ⟨(Value.pointer (some ⟨pb,0,none⟩)::u1::u2::u3::u4::u5::u6::u7::u8::Value.pointer (some ⟨xb,0,none⟩)::u10::u11::u12::u13::u14::u15::u16::u17::u18::u19::u20::u21::u22::u23::u24::u25::u26::u27::u28::u29::u30::u31::u32::u33::u34::u35::u36::u37::u38::u39::u40::u41::u42::u43::u44::u45::u46::u47::u48::u49::u50::u51::u52::u53::u54::u55::u56::u57::u58::u59::u60::u61::u62::u63::u64::u65::u66::u67::u68::u69::u70::u71::u72::u73::u74::u75::u76::u77::[]).toArray,[]⟩ w9):=by
   clear aK1 aK2
   apply Lib.hid
   intro u1 u2 u3 u4 u5 u6 u7 u8 u10 u11 u12 u13 u14 u15 u16 u17 u18 u19 u20 u21 u22 u23 u24 u25 u26 u27 u28 u29 u30 u31 u32 u33 u34 u35 u36 u37 u38 u39 u40 u41 u42 u43 u44 u45 u46 u47 u48 u49 u50 u51 u52 u53 u54 u55 u56 u57 u58 u59 u60 u61 u62 u63 u64 u65 u66 u67 u68 u69 u70 u71 u72 u73 u74 u75 u76 u77 w9 X hx9 ht hxo hxd
   refine HAK.out _ _ ?_
   have ht9:=HT5.out.later ht (fun q hq=>.inr (by subst hq;exact HAL.out))
   have hp9:=H.out.reBox ht9 (HB5.out.turn ht (fun e=>by have:=HPX.out;omega))
   have HT9:=Lib.hid ht9
   have HP9:=Lib.hid hp9
   have HX9:=Lib.hid hx9
   have hxo9:=hxo.turn ht (S':=PaS w0 pb bv bl) (fun q hq=>.inr hq) (fun q hq=>.inl (.inl hq))
   have HXO:=Lib.hid hxo9
   have HONE:=Lib.hid (show (#[Value.int .i64 X.kind,X.argsv,X.tov,.int .i32 X.imm]:Array Value).all (·.oneCell')=true from by
    obtain⟨za,zc,ze⟩:=nums_lenI hxo9.read.1
    obtain⟨ya,yc,ye⟩:=nums_lenI hxo9.read.2
    rw[ze,ye];simp[Value.oneCell'])
   have HXD:=Lib.hid hxd
   have HBL:=Lib.hid (hp9.last b HB.out)
   have hpos:0<bl.length:=by
    rcases Nat.eq_zero_or_pos bl.length with h0|h0
    ·have:=(List.getElem?_eq_some_iff.1 HB.out).1;omega
    ·exact h0
   obtain⟨bb,bc,hbv,hbc,hbc2,_,hbbl,hbbs,hbcell⟩:=own_pos hp9.row hpos
   obtain⟨mm,hmm⟩:∃ mm,bl.length=mm+1:=⟨bl.length-1,by omega⟩
   rw[hmm]at hbv hb1 hbc
   subst hbv
   have hm1:bl.length-1=mm:=by omega
   have c1:w9.cell? ⟨pb,1,none⟩=some (.slice (some ⟨bb,0,none⟩) (mm+1) bc):=hp9.cell 1
   have hpl:pb<w9.heap.size:=hp9.box.lt
   have HTHERE:=Lib.hid (show ∀ w':World,Since w9 w'→w'.there bb (mm*6+2) 4 from fun w' hs=>by
    have h1:OwnRow fbcells 6 57 0 w' (.slice (some ⟨bb,0,none⟩) (mm+1) bc) bl:=OwnRow.keep hp9.row hs
    unfold OwnRow at h1
    rw[hmm]at h1
    exact own_there h1 (by rw[flat_len fbcells 6 fbcells_len,hmm];omega))
   have HC1:=Lib.hid c1
   have HM1:=Lib.hid hm1
   have HMM:=Lib.hid hmm
   have HLT:=Lib.hid (show pb<w9.heap.size∧bb<w9.heap.size from⟨hpl,hbbl⟩)
   clear hp9 hpos hbbl hbbs hbcell hm1 hmm hbc2 hx9 ht hxo hxd ht9 hxo9 c1 hpl
   go_wp2_with fail
   refine wp_region_since_tail 13 rfl (by decide +kernel) (by decide +kernel) (by decide +kernel) (by decide)
    [Is (.pointer (some ⟨pb,0,none⟩)),Is (.pointer (some ⟨pb,0,none⟩)),Is (.pointer (some ⟨pb,0,none⟩)),Is (.pointer (some ⟨pb,1,none⟩)),Is (.slice (some ⟨bb,0,none⟩) (mm+1) bc),Is (.pointer (some ⟨pb,0,none⟩)),Is (.pointer (some ⟨pb,0,none⟩)),Is (.pointer (some ⟨pb,0,none⟩)),Is (.pointer (some ⟨pb,1,none⟩)),Is (.slice (some ⟨bb,0,none⟩) (mm+1) bc),Is (.int .i64 ((mm:Int)+1)),Is (.int .i64 mm),Is (fterm X)]
    (by repeat (first | exact trivial | refine⟨Is.stable _,?_⟩ | refine⟨IsNums.stable _ _,?_⟩ | refine⟨IsRows.stable _ _,?_⟩)) ⟨?_,?_,?_,?_,?_,?_,?_,?_,?_,?_,?_,?_,?_,trivial⟩ ?_
   all_goals
    intro vs w8 hs hk
    try intro _
    simp only[List.take,List.drop,putAll,Act.put,Knows,KnowsAll,nthF,Is,List.setIfInBounds_toArray,List.set_cons_zero,List.set_cons_succ,Nat.reduceAdd]at hk ⊢
    try simp only[hk]
   ·go_wp2
    exact⟨_,rfl,rfl,Since.refl _⟩
   ·go_wp2
    exact⟨_,rfl,rfl,Since.refl _⟩
   ·go_wp2
    exact⟨_,rfl,rfl,Since.refl _⟩
   ·go_wp2
    exact⟨_,rfl,rfl,Since.refl _⟩
   ·have k1:w8.cell? ⟨pb,1,none⟩=some (.slice (some ⟨bb,0,none⟩) (mm+1) bc):=(hs.cell (p:=⟨pb,1,none⟩) HLT.out.1).trans HC1.out
    have k2:pb<w8.heap.size:=Nat.lt_of_lt_of_le HLT.out.1 hs.size
    go_wp2
    exact⟨_,rfl,rfl,Since.refl _⟩
   ·go_wp2
    exact⟨_,rfl,rfl,Since.refl _⟩
   ·go_wp2
    exact⟨_,rfl,rfl,Since.refl _⟩
   ·go_wp2
    exact⟨_,rfl,rfl,Since.refl _⟩
   ·go_wp2
    exact⟨_,rfl,rfl,Since.refl _⟩
   ·have k1:w8.cell? ⟨pb,1,none⟩=some (.slice (some ⟨bb,0,none⟩) (mm+1) bc):=(hs.cell (p:=⟨pb,1,none⟩) HLT.out.1).trans HC1.out
    have k2:pb<w8.heap.size:=Nat.lt_of_lt_of_le HLT.out.1 hs.size
    go_wp2
    exact⟨_,rfl,rfl,Since.refl _⟩
   ·go_wp2
    exact⟨_,rfl,rfl,Since.refl _⟩
   ·go_wp2
    exact⟨_,rfl,rfl,Since.refl _⟩
   ·have hbx:=HX9.out.keep hs
    clear hk
    refine wpList_load_row rfl _ _ rfl xb rfl 54 _ (0,0) _ hbx Tryz.underlying54 rfl (by kernel_rfl) ?_
    go_wp2
    exact⟨_,rfl,rfl,Since.refl _⟩
   ·have HS:=Lib.hid hs
    have hth:=HTHERE.out _ hs
    clear hs hk
    go_wp2_with (refine wpList_store_mid rfl 54 _ _ rfl bb (mm*6+2) #[.int .i64 X.kind,X.argsv,X.tov,.int .i32 X.imm] rfl rfl hth (by kernel_rfl) HONE.out ?_)
    go_end0
    have hp8:=HP9.out.keep HS.out
    have hbl:=HBL.out
    have tc:Turn (fun q=>q=bb) w8 (w8.setCells bb (mm*6+2) [.int .i64 X.kind,X.argsv,X.tov,.int .i32 X.imm]):=
     ((((Turn.refl (fun q=>q=bb) w8).setCell (p:=⟨bb,mm*6+2,none⟩) rfl _).setCell (p:=⟨bb,mm*6+3,none⟩) rfl _).setCell (p:=⟨bb,mm*6+4,none⟩) rfl _).setCell (p:=⟨bb,mm*6+5,none⟩) rfl _
    have hl8:=hp8.last b HB.out
    have hup:=PaM.updG hp8 (b':={ b with term:=X }) HB.out (bb:=bb) (cap:=bc) (by rw[HMM.out]) (Turn.refl _ _) tc (fun hr=>by
     have e:mm+1=bl.length:=HMM.out.symm
     rw[e]at hr ⊢
     rw[HM1.out]
     exact own_setTerm hr (by rw[←HM1.out];exact HB.out) X) hl8.phis hl8.ins (fun q hq=>.inl hq) (fun q hq=>.inl hq) hl8.phi hl8.inx (HXO.out.turn (R:=fun _=>False) (Turn.since HS.out) (fun _ h=>h.elim) (fun q hq=>.inl hq))
    rw[HM1.out]at hup
    refine⟨rfl,numsE 0 l,_,hup,?_,?_⟩
    ·exact ((HT9.out.mono fun q _ hq=>.inl hq:Turn (PaOwn pb _ bl) w w9).trans (Turn.since HS.out)).trans (tc.mono fun q _ hq=>.inr (.inl (by rw[hq];rfl)))
    ·rw[HANS.out]
     unfold numsE
     cases hok:areNums l
     ·exact⟨rfl,by decide⟩
     ·refine⟨rfl,rfl,?_⟩
      have:=last_set (b':={ b with term:=X }) HB.out ⟨params,bl.map FBlk.d,pl⟩ rfl (fun b=>⟨b.phis,b.ins,termOf kind (numsW l)⟩) (by rw[HNS.out,←HXD.out];simp[FBlk.d])
      rw[HM1.out]at this
      exact this
  clear aK1 HAK HB HANS
  have hbl:=HBOX.out.lt
  have hbf:=HBOX.out.frozen
  by_cases h1:kind=1
  ·subst h1
   have k2:=HBOX.out.cell 2
   go_wp2
   refine HJ.out ⟨1,[],.slice none 0 0,ns,.slice ra n rc,0⟩ (HBOX.out.set 2 _) ((Turn.refl (fun q=>q=xb) w5).setCell (p:=⟨xb,2,none⟩) rfl _) ?_ ?_
   ·exact⟨⟨.nil _ _,ints_own (by rw[HNSL.out];exact HOWN5.out)⟩,Stays.nil _ _,HNG.out⟩
   ·simp[termOf,FTerm.d]
  ·skip
   by_cases h2:kind=2
   ·subst h2
    obtain⟨rfl,rfl⟩:L=3∧M=3:=⟨HLM.out.1.symm,HLM.out.2.symm⟩
    obtain⟨g,gc,hgv,hg1,hg2,hg3,hg4,_,hgc⟩:=own_pos HOWN5.out (by omega)
    cases hgv
    have HGC5:=Lib.hid hgc
    have HG4:=Lib.hid hg4
    have HG2:=Lib.hid hg2
    clear hgc hg2 hg3
    have k1:=HBOX.out.cell 1
    have k2:=HBOX.out.cell 2
    go_wp2
    refine HJ.out ⟨2,ns.take 1,.slice (some ⟨g,0,none⟩) 1 rc,ns.drop 1,.slice (some ⟨g,1,none⟩) (n-1) (rc-1),0⟩ ((HBOX.out.set 1 _).set 2 _) (((Turn.refl (fun q=>q=xb) w5).setCell (p:=⟨xb,1,none⟩) rfl _).setCell (p:=⟨xb,2,none⟩) rfl _) ?_ ?_
    ·exact⟨⟨ints_part HGC5.out HG4.out 0 1 rc (by rw[HNSL.out];omega) (by omega) HG2.out,ints_part2 HGC5.out HG4.out 1 (n-1) (rc-1) (by rw[HNSL.out];omega) (by rw[HNSL.out]) (by omega) (by have:=HG2.out;omega)⟩,fun q hq=>HNG.out q (by cases hq;rfl),fun q hq=>HNG.out q (by cases hq;rfl)⟩
    ·simp[termOf,FTerm.d]
   ·skip
    by_cases h3:kind=3
    ·subst h3
     obtain rfl:L=2:=HLM.out.1.symm
     obtain⟨g,gc,hgv,hg1,hg2,hg3,hg4,_,hgc⟩:=own_pos HOWN5.out (by omega)
     cases hgv
     have HGC5:=Lib.hid hgc
     have HG4:=Lib.hid hg4
     have HG2:=Lib.hid hg2
     clear hgc hg2 hg3
     have k1:=HBOX.out.cell 1
     have k2:=HBOX.out.cell 2
     go_wp2
     refine HJ.out ⟨3,ns.take 1,.slice (some ⟨g,0,none⟩) 1 rc,ns.drop 1,.slice (some ⟨g,1,none⟩) (n-1) (rc-1),0⟩ ((HBOX.out.set 1 _).set 2 _) (((Turn.refl (fun q=>q=xb) w5).setCell (p:=⟨xb,1,none⟩) rfl _).setCell (p:=⟨xb,2,none⟩) rfl _) ?_ ?_
     ·exact⟨⟨ints_part HGC5.out HG4.out 0 1 rc (by rw[HNSL.out];omega) (by omega) HG2.out,ints_part2 HGC5.out HG4.out 1 (n-1) (rc-1) (by rw[HNSL.out];omega) (by rw[HNSL.out]) (by omega) (by have:=HG2.out;omega)⟩,fun q hq=>HNG.out q (by cases hq;rfl),fun q hq=>HNG.out q (by cases hq;rfl)⟩
     ·simp[termOf,FTerm.d]
    ·skip
     by_cases h4:kind=4
     ·subst h4
      have k1:=HBOX.out.cell 1
      go_wp2
      refine HJ.out ⟨4,ns,.slice ra n rc,[],.slice none 0 0,0⟩ (HBOX.out.set 1 _) ((Turn.refl (fun q=>q=xb) w5).setCell (p:=⟨xb,1,none⟩) rfl _) ?_ ?_
      ·exact⟨⟨ints_own (by rw[HNSL.out];exact HOWN5.out),.nil _ _⟩,HNG.out,Stays.nil _ _⟩
      ·simp[termOf,FTerm.d]
     ·skip
      obtain h5:kind=5:=by have:=HK.out;omega
      subst h5
      obtain⟨rfl,rfl⟩:L=1∧M=1:=⟨HLM.out.1.symm,HLM.out.2.symm⟩
      obtain rfl:n=1:=by omega
      obtain⟨g,gc,hgv,hg1,hg2,hg3,hg4,_,hgc⟩:=own_pos HOWN5.out (by omega)
      cases hgv
      have HGC5:=Lib.hid hgc
      have HG4:=Lib.hid hg4
      have HG2:=Lib.hid hg2
      clear hgc hg2 hg3
      obtain⟨x0,rfl⟩:=list1 HNSL.out
      have c0:w5.cell? ⟨g,0,none⟩=some (.int .i64 x0):=HGC5.out 0 _ rfl
      have wr0:wrap32 x0=x0:=wrap32_of (HN32.out x0 (by simp))
      have k3:=HBOX.out.cell 3
      go_wp2
      refine HJ.out ⟨5,[],.slice none 0 0,[],.slice none 0 0,x0⟩ (HBOX.out.set 3 _) ((Turn.refl (fun q=>q=xb) w5).setCell (p:=⟨xb,3,none⟩) rfl _) ?_ ?_
      ·exact⟨⟨.nil _ _,.nil _ _⟩,Stays.nil _ _,Stays.nil _ _⟩
      ·simp[termOf,FTerm.d]
end
end Go.Proofs.YtmhojfpidedjeaaGreatDoor
