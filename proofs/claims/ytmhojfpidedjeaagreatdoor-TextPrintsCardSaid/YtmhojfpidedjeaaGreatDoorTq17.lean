/- The program's ins: the walk. -/
import Derived.Test.YtmhojfpidedjeaaGreatDoorTq16
namespace Go.Proofs.YtmhojfpidedjeaaGreatDoor
open Go.RowKit
set_option linter.unusedVariables false
attribute [local simp] fresh_nil fresh_cons intKeys_nil intKeys_cons
def InsTQ (w0:World) (pb:Nat) (tv:Value) (params pl:Int) (bv:Value) (bl:List FBlk) (op:Int) (l:List ByteArray) (w:World) (x:Ending) (w':World):Prop:=
 x=.returned (.tuple #[])∧∃ e' bl',TPa w0 pb tv params pl e' bv bl' w'∧Turn (PaOwn pb bv bl) w w'∧PaAns (insSt ⟨params,bl.map FBlk.d,pl⟩ op l) e' params bl'
theorem failE_b {x : Bool} (h:x=false):failE 0 (!x) 70=70:=by subst h;rfl
theorem failE_g {x : Bool} (h:x=true):failE 0 (!x) 70=0:=by subst h;rfl
theorem heap_two (w:World) (o:Obj) (cs:Array Value) (T:TypeId):HeapIs ((w.alloc o).alloc (.cells cs T)) (w.heap.size+1) cs T:=by have h:=HeapIs.new (w.alloc o) cs T;have e:(w.alloc o).heap.size=w.heap.size+1:=(by simp);rw[e]at h;exact h
structure ArgPh (xb:Nat) (w6:World) (cs:Array Value) (w8:World):Prop where
 t:Turn (fun q=>q=xb) w6 w8
 b:HeapIs w8 xb cs 51
def countsOf:List MapEntry:=[{ key:=.int .i64 1,val:=.agg #[.int .i64 2,.int .i64 2],born:=0 },{ key:=.int .i64 17,val:=.agg #[.int .i64 2,.int .i64 6],born:=1 },{ key:=.int .i64 18,val:=.agg #[.int .i64 4,.int .i64 4],born:=2 }]
theorem counts_look (op:Int):∃ (L0 M0:Int) (kn:Bool),(look op countsOf).getD (.agg #[.int .i64 0,.int .i64 0])=.agg #[.int .i64 L0,.int .i64 M0]∧(look op countsOf).isSome=kn∧(kn=true∧L0=(least op:Int)∧M0=(most op:Int)∨kn=false∧least op=3∧most op=3):=by
 unfold countsOf
 simp only[look_cons,look_nil]
 by_cases h1:op=1
 ·subst h1;exact⟨2,2,true,rfl,rfl,.inl ⟨rfl,rfl,rfl⟩⟩
 ·by_cases h17:op=17
  ·subst h17;exact⟨2,6,true,rfl,rfl,.inl ⟨rfl,rfl,rfl⟩⟩
  ·by_cases h18:op=18
   ·subst h18;exact⟨4,4,true,rfl,rfl,.inl ⟨rfl,rfl,rfl⟩⟩
   ·have q1:(op==1)=false:=by simpa using h1
    have q17:(op==17)=false:=by simpa using h17
    have q18:(op==18)=false:=by simpa using h18
    rw[q1,q17,q18]
    exact⟨0,0,false,rfl,rfl,.inr ⟨rfl,by unfold least;simp[h1,h17,h18],by unfold most;simp[h1,h17,h18]⟩⟩
section
variable {w0:World} {pb:Nat} {tv:Value} {params pl:Int} {bv:Value} {bl:List FBlk}
set_option maxHeartbeats 4000000 in
set_option maxRecDepth 100000 in
theorem ins_raw (w:World) (h:TPa w0 pb tv params pl 0 bv bl w) (hL:LaidT w0) (op:Int) (hop:1≤op∧op≤18) (v:Value) (l:List ByteArray) (hl:StrsIn w v l) (hst:Stays (PaOwn pb bv bl) w v) (hn:l.length≤400000) (b:FBlk) (hb:bl[bl.length-1]? = some b) (hb1:bl.length≤1000000) (hb2:b.ins.length≤1000000):Calls Tryz.prog 79 #[.pointer (some ⟨pb,0,none⟩),.int .i64 op,v] w (InsTQ w0 pb tv params pl bv bl op l w):=by
 obtain⟨a,c,e1,_⟩:=RowIn.shape hl
 obtain⟨n,hnn⟩:∃ n,l.length=n:=⟨_,rfl⟩
 rw[hnn]at e1
 subst e1
 have hmm:=@run_makeMap Tryz.prog
 have hup:=@run_mapUpdate_new Tryz.prog _ _ _ Tryz.underlying167 Tryz.underlying3
 have hlk:=@run_lookup_both Tryz.prog _ _ _ Tryz.underlying167 Tryz.underlying3 _ zero_pair
 obtain⟨L0,M0,kn,hl1,hl2,hl3⟩:=counts_look op
 unfold countsOf at hl1 hl2
 have HL3:=Lib.hid hl3
 have H:=Lib.hid h
 have HLT0:=Lib.hid hL
 have HL:=Lib.hid (fun (S:Nat→Prop) w' (hS:∀ q,S q→PaOwn pb bv bl q∨w.heap.size≤q) (t:Turn S w w')=>(RowIn.turn hl t (fun q hq hr=>by rcases hS q hr with h1 | h1;exact (hst q hq).1 h1;have:=(hst q hq).2;omega) (fun _ _ h=>h):StrsIn w' _ l))
 have HST:=Lib.hid hst
 have HB:=Lib.hid hb
 have HNN:=Lib.hid hnn
 rw[hnn]at hn
 have HOP:=Lib.hid hop
 clear h hl hst hb hnn hop hl3 hL
 go_enter Tryz.func79,Tryz.ntmps79
 go_upto_region 2 with (fail)
 rename_i K1 aK1 K2 aK2
 have HAK1:=Lib.hid aK1
 have HAK2:=Lib.hid aK2
 clear aK1 aK2 hmm hup hlk hl1 hl2
 obtain⟨L,hL⟩:∃ L,least op=L:=⟨_,rfl⟩
 obtain⟨M,hM⟩:∃ M,most op=M:=⟨_,rfl⟩
 have hLM:2≤L∧L≤4∧M≤6:=by
  rw[←hL,←hM];exact least_bounds op
 have hl3:=HL3.out
 rw[hL,hM]at hl3
 have HLM:=Lib.hid (And.intro hL hM)
 clear HL3 hL hM
 have HJ0:Hid (∀ {u3 u4 u5 u6 u8 u9 u10 u11 u12 u13 u14 u15 u16 u17 u18 u19 u20 u21 u22 u23 u24 u25 u26 u27 u28 u29 u30 u31 u32 u33 u34 u35 u36 u37 u38 u39 u40 u41 u42 u43 u44 u45 u46 u47 u48 u49 u50 u51 u52 u53 u54 u55 u56 u57 u58 u59 u60 u61 u62 u63 u64 u65 u66 u67 u68 u69 u70 u71 u72 u73 u74 u75 u76 u77 u78 u79 u80 u81 u82 u83 u84 u85 u86 u87 u88 u89 u90 u91 u92 u93 u94 u95 u96 u97 u98 u99 u100 u101 u102 u103 u104 u105 u106 u107 u108 u109 u110 u111 u112 u113 u114:Value} {w5:World},Since w w5→HeapIs w5 (w.heap.size+1) #[.int .i64 L,.int .i64 M] 33→K1 ⟨(Value.pointer (some ⟨pb,0,none⟩)::Value.int .i64 op::Value.slice a n c::u3::u4::u5::u6::Value.pointer (some ⟨(w.heap.size+1),0,none⟩)::u8::u9::u10::u11::u12::u13::u14::u15::u16::u17::u18::u19::u20::u21::u22::u23::u24::u25::u26::u27::u28::u29::u30::u31::u32::u33::u34::u35::u36::u37::u38::u39::u40::u41::u42::u43::u44::u45::u46::u47::u48::u49::u50::u51::u52::u53::u54::u55::u56::u57::u58::u59::u60::u61::u62::u63::u64::u65::u66::u67::u68::u69::u70::u71::u72::u73::u74::u75::u76::u77::u78::u79::u80::u81::u82::u83::u84::u85::u86::u87::u88::u89::u90::u91::u92::u93::u94::u95::u96::u97::u98::u99::u100::u101::u102::u103::u104::u105::u106::u107::u108::u109::u110::u111::u112::u113::u114::[]).toArray,[]⟩ w5):=by
  clear hl3
  apply Lib.hid
  intro u3 u4 u5 u6 u8 u9 u10 u11 u12 u13 u14 u15 u16 u17 u18 u19 u20 u21 u22 u23 u24 u25 u26 u27 u28 u29 u30 u31 u32 u33 u34 u35 u36 u37 u38 u39 u40 u41 u42 u43 u44 u45 u46 u47 u48 u49 u50 u51 u52 u53 u54 u55 u56 u57 u58 u59 u60 u61 u62 u63 u64 u65 u66 u67 u68 u69 u70 u71 u72 u73 u74 u75 u76 u77 u78 u79 u80 u81 u82 u83 u84 u85 u86 u87 u88 u89 u90 u91 u92 u93 u94 u95 u96 u97 u98 u99 u100 u101 u102 u103 u104 u105 u106 u107 u108 u109 u110 u111 u112 u113 u114 w5 hs5 hcb
  refine HAK1.out _ _ ?_
  have d0:w5.cell? ⟨w.heap.size+1,0,none⟩=some (.int .i64 L):=hcb.cell 0
  have d1:w5.cell? ⟨w.heap.size+1,1,none⟩=some (.int .i64 M):=hcb.cell 1
  have dl:=hcb.lt
  have HP5:=Lib.hid (H.out.keep hs5)
  have HS5:=Lib.hid hs5
  clear hs5 hcb HAK1 HAK2
  by_cases hbad:n<L∨M<n
  ·have HBAD:=Lib.hid (show insSt ⟨params,bl.map FBlk.d,pl⟩ op l=.error 70 from by
    unfold insSt;rw[if_neg];rw[HLM.out.1,HLM.out.2,HNN.out];omega)
   have hfin:∀ w',TPa w0 pb tv params pl 70 bv bl w'→Turn (fun q=>q=pb) w5 w'→InsTQ w0 pb tv params pl bv bl op l w (.returned (.tuple #[])) w':=fun w' h1 h2=>⟨rfl,70,bl,h1,((Turn.since (S:=fun q=>q=pb) HS5.out).trans h2).mono (fun q _ hq=>.inl hq),by rw[HBAD.out];exact⟨rfl,by decide⟩⟩
   have HFIN:=Lib.hid hfin
   clear hfin
   by_cases hlow:n<L
   ·clear hbad
    go_wp2_with fail
    refine (must_any w5 HP5.out _ 70 (by decide)).mono ?_
    rintro e1 w1 ⟨rfl,hp,ht⟩
    have HF:=Lib.hid (HFIN.out w1 hp ht)
    clear hp ht
    go_wp2
    go_end0
    exact HF.out
   ·have hhi:M<n:=by omega
    have hge:L≤n:=by omega
    clear hbad hlow
    go_wp2_with fail
    refine (must_any w5 HP5.out _ 70 (by decide)).mono ?_
    rintro e1 w1 ⟨rfl,hp,ht⟩
    rw[failE_b (by first | rfl | (simp;omega))]at hp ⊢
    have HF:=Lib.hid (HFIN.out w1 hp ht)
    clear hp ht
    go_wp2
    go_end0
    exact HF.out
  ·have hgood:L≤n∧n≤M:=by omega
   have hg1:=hgood.1
   have hg2:=hgood.2
   clear hbad
   go_wp2_with fail
   refine (must_any w5 HP5.out _ 70 (by decide)).mono ?_
   rintro e1 w1 ⟨rfl,hp,ht⟩
   rw[failE_g (by first | rfl | (simp;omega))]at hp ⊢
   have HP:=Lib.hid hp
   have HT:=Lib.hid ((Turn.since (S:=fun q=>q=pb) HS5.out).trans ht)
   clear hp ht d0 d1 dl
   go_wp2_with fail
   have hs1:Stays (fun q=>q=pb) w1 (.slice a n c):=HST.out.mono (fun q hq=>.inl (.inl hq)) HT.out.size
   refine (nums_any w1 HP.out HLT0.out _ l (HL.out _ w1 (fun q hq=>.inl (.inl hq)) HT.out) hs1 (by rw[HNN.out];omega)).mono ?_
   rintro e4 w4 ⟨rv,rfl,hrow,hp4,ht4⟩
   obtain⟨ns,hns⟩:∃ ns,numsW l=ns:=⟨_,rfl⟩
   have hnsl:ns.length=n:=by rw[←hns,←HNN.out];unfold numsW;simp
   rw[hns,hnsl]at hrow
   obtain⟨g,gc,rfl,hgn,hgm,hg3,hg4,_,hgc⟩:=own_pos hrow (by omega)
   obtain⟨x0,nt0,hn0⟩:∃ x0 nt0,ns=x0::nt0:=by
    match ns,hnsl with
    | x0::nt0,_=>exact⟨x0,nt0,rfl⟩
    | [],h=>exact absurd h (by simp;omega)
   have hx0:w4.cell? ⟨g,0,none⟩=some (.int .i64 x0):=hgc 0 _ (by rw[hn0];rfl)
   have HN0:=Lib.hid hn0
   have HNS:=Lib.hid hns
   have HNSL:=Lib.hid hnsl
   have HGC:=Lib.hid hgc
   have HP4:=Lib.hid hp4
   have HT4:=Lib.hid (HT.out.trans ht4)
   have HG2:=Lib.hid hgm
   have HG:=Lib.hid (And.intro hg3 hg4)
   have HWG:=Lib.hid (show w.heap.size≤g from by have:=HT.out.size;omega)
   clear hrow hp4 ht4 hns hnsl hgc hs1 hg3 hgm hn0
   go_upto_region 9 with (fail)
   obtain⟨xb,hxb⟩:∃ xb,w4.heap.size=xb:=⟨_,rfl⟩
   have hbox:HeapIs (w4.alloc (.cells #[.int .i64 op,.int .i64 x0,.int .i64 0,.slice none 0 0,.int .i32 0] 51)) xb #[.int .i64 op,.int .i64 x0,.int .i64 0,.slice none 0 0,.int .i32 0] 51:=by rw[←hxb];exact HeapIs.new _ _ _
   have HGX:=Lib.hid (show g<xb from by have:=HG.out.2;omega)
   have HAL:=Lib.hid (show w.heap.size≤xb from by rw[←hxb];exact HT4.out.size)
   have HPX:=Lib.hid (show pb<xb from by have:=H.out.box.lt;have:=HAL.out;omega)
   obtain⟨w6,hw6⟩:∃ w6,w4.alloc (.cells #[.int .i64 op,.int .i64 x0,.int .i64 0,.slice none 0 0,.int .i32 0] 51)=w6:=⟨_,rfl⟩
   have hs6:Since w4 w6:=by rw[←hw6];exact (Since.refl _).alloc _
   rw[hw6]at hbox
   rw[hxb,hw6]
   have HBOX:=Lib.hid hbox
   have HT5:=Lib.hid (HT4.out.later (Turn.since (S:=fun q=>q=pb) hs6) (fun q hq=>.inl hq))
   have HB5:=Lib.hid (HP4.out.box.keep hs6)
   have HANS:Hid (insSt ⟨params,bl.map FBlk.d,pl⟩ op l=if areNums l then .ok ⟨params,onLast ⟨params,bl.map FBlk.d,pl⟩ (fun b=>⟨b.phis,b.ins++[insOf op (numsW l)],b.term⟩),3⟩ else .error 71):=Lib.hid (by
    unfold insSt;rw[if_pos];rw[HLM.out.1,HLM.out.2,HNN.out];exact hgood)
   have HGC5:=Lib.hid (fun (j:Nat) (x:Value) (h:(ns.map (Value.int .i64))[j]? = some x)=>((hs6.cell (p:=⟨g,j,none⟩) HG.out.2).trans (HGC.out j x h):w6.cell? ⟨g,j,none⟩=some x))
   have HN32:=Lib.hid (show ∀ y∈ns,In32W y from fun y hy=>by rw[←HNS.out]at hy;unfold numsW at hy;obtain⟨z,_,rfl⟩:=List.mem_map.1 hy;exact numW_32 z)
   have HNG:=Lib.hid (show ¬ (PaS w0 pb bv bl g∨g=xb) from fun h=>by rcases h with h | h;have:=H.out.ltS g h;have:=HWG.out;omega;have:=HGX.out;omega)
   have HGL:=Lib.hid (show g<w6.heap.size from Nat.lt_of_lt_of_le HG.out.2 hs6.size)
   clear hbox hxb hs6 hw6 hx0
   rename_i K3 aK3 K4 aK4
   have HAK:=Lib.hid aK3
   have HJ:Hid (∀ {u1 u2 u3 u4 u5 u6 u7 u8 u9 u11 u12 u13 u14 u15 u16 u17 u18 u19 u20 u21 u22 u23 u24 u25 u26 u27 u28 u29 u30 u31 u32 u33 u34 u35 u36 u37 u38 u39 u40 u41 u42 u43 u44 u45 u46 u47 u48 u49 u50 u51 u52 u53 u54 u55 u56 u57 u58 u59 u60 u61 u62 u63 u64 u65 u66 u67 u68 u69 u70 u71 u72 u73 u74 u75 u76 u77 u78 u79 u80 u81 u82 u83 u84 u85 u86 u87 u88 u89 u90 u91 u92 u93 u94 u95 u96 u97 u98 u99 u100 u101 u102 u103 u104 u105 u106 u107 u108 u109 u110 u111 u112 u113 u114:Value} {w9:World} (X:FIns),HeapIs w9 xb (ficells X).toArray 51→Turn (fun q=>q=xb) w6 w9→InsOk (fun q=>PaS w0 pb bv bl q∨q=xb) w6 X→FIns.d X=insOf op ns→K3 ⟨(Value.pointer (some ⟨pb,0,none⟩)::u1::u2::u3::u4::u5::u6::u7::u8::u9::Value.pointer (some ⟨xb,0,none⟩)::u11::u12::u13::u14::u15::u16::u17::u18::u19::u20::u21::u22::u23::u24::u25::u26::u27::u28::u29::u30::u31::u32::u33::u34::u35::u36::u37::u38::u39::u40::u41::u42::u43::u44::u45::u46::u47::u48::u49::u50::u51::u52::u53::u54::u55::u56::u57::u58::u59::u60::u61::u62::u63::u64::u65::u66::u67::u68::u69::u70::u71::u72::u73::u74::u75::u76::u77::u78::u79::u80::u81::u82::u83::u84::u85::u86::u87::u88::u89::u90::u91::u92::u93::u94::u95::u96::u97::u98::u99::u100::u101::u102::u103::u104::u105::u106::u107::u108::u109::u110::u111::u112::u113::u114::[]).toArray,[]⟩ w9):=by
    clear aK3 aK4
    apply Lib.hid
    intro u1 u2 u3 u4 u5 u6 u7 u8 u9 u11 u12 u13 u14 u15 u16 u17 u18 u19 u20 u21 u22 u23 u24 u25 u26 u27 u28 u29 u30 u31 u32 u33 u34 u35 u36 u37 u38 u39 u40 u41 u42 u43 u44 u45 u46 u47 u48 u49 u50 u51 u52 u53 u54 u55 u56 u57 u58 u59 u60 u61 u62 u63 u64 u65 u66 u67 u68 u69 u70 u71 u72 u73 u74 u75 u76 u77 u78 u79 u80 u81 u82 u83 u84 u85 u86 u87 u88 u89 u90 u91 u92 u93 u94 u95 u96 u97 u98 u99 u100 u101 u102 u103 u104 u105 u106 u107 u108 u109 u110 u111 u112 u113 u114 w9 Y hx9 ht hxo hxd
    refine HAK.out _ _ ?_
    obtain⟨op1,dst1,two1,ar1,av1,imm1⟩:=Y
    obtain⟨ya,yc,hyv⟩:=nums_lenI hxo.1
    obtain⟨yk,hyk⟩:∃ k,ar1.length=k:=⟨_,rfl⟩
    obtain rfl:av1=.slice ya yk yc:=hyv.trans (by rw[hyk])
    have hcap:=ints_cap hxo.1
    have k3:w9.cell? ⟨xb,3,none⟩=some (.slice ya yk yc):=hx9.cell 3
    have hxl:=hx9.lt
    have hxf:=hx9.frozen
    have HX8:=Lib.hid hx9
    have HT8:=Lib.hid ht
    have HXO8:=Lib.hid (show InsOk (fun q=>PaS w0 pb bv bl q∨q=xb) w6 ⟨op1,dst1,two1,ar1,.slice ya yk yk,imm1⟩ from⟨ints_clip hxo.1,stays_slice hxo.2⟩)
    have HXD:=Lib.hid (show FIns.d ⟨op1,dst1,two1,ar1,.slice ya yk yk,imm1⟩=insOf op ns from hxd)
    have HCAP:=Lib.hid hcap
    clear hx9 ht hxo hxd hyv hyk hcap
    go_wp2_with fail
    refine (clip_any ya yk yc w9 HCAP.out.1 HCAP.out.2).mono ?_
    rintro e10 w10 ⟨rfl,hw10⟩
    obtain rfl:w9=w10:=hw10.symm
    go_upto_region 20 with (fail)
    obtain⟨X,hX⟩:∃ X:FIns,X=⟨op1,dst1,two1,ar1,.slice ya yk yk,imm1⟩:=⟨_,rfl⟩
    have hx9:HeapIs (w9.setCell ⟨xb,3,none⟩ (.slice ya yk yk)) xb (ficells X).toArray 51:=by rw[hX];exact HX8.out.set 3 _
    have ht:Turn (fun q=>q=xb) w6 (w9.setCell ⟨xb,3,none⟩ (.slice ya yk yk)):=HT8.out.setCell (p:=⟨xb,3,none⟩) rfl _
    have hxo:=HXO8.out
    have hxd:=HXD.out
    rw[←hX]at hxo hxd
    have HXE:=Lib.hid hX
    clear k3 hxl hxf hX HX8 HT8 HXO8 HXD
    generalize w9.setCell ⟨xb,3,none⟩ (.slice ya yk yk)=w9 at *
    have ht9:=HT5.out.later ht (fun q hq=>.inr (by subst hq;exact HAL.out))
    have hp9:=H.out.reBox ht9 (HB5.out.turn ht (fun e=>by have:=HPX.out;omega))
    have HT9:=Lib.hid ht9
    have HP9:=Lib.hid hp9
    have HX9:=Lib.hid hx9
    have HXO:=Lib.hid (hxo.turn ht (S':=PaS w0 pb bv bl) (fun q hq=>.inr hq) (fun q hq=>.inl (.inl hq)))
    have HXD:=Lib.hid hxd
    have HBL:=Lib.hid (hp9.last b HB.out)
    have hpos:0<bl.length:=by
     rcases Nat.eq_zero_or_pos bl.length with h0|h0
     ·have:=(List.getElem?_eq_some_iff.1 HB.out).1;omega
     ·exact h0
    obtain⟨bb,bc,hbv,hbc,hbc2,_,hbbl,hbbs,hbcell⟩:=own_pos hp9.row hpos
    obtain⟨mm,hmm⟩:∃ mm,bl.length=mm+1:=⟨bl.length-1,by omega⟩
    rw[hmm]at hbv hb1 hbc
    subst hbv
    have hm1:bl.length-1=mm:=by omega
    obtain⟨pa,pc,hpv⟩:=own_shape HBL.out.ins
    obtain⟨pn,hpn⟩:∃ pn,b.ins.length=pn:=⟨_,rfl⟩
    rw[hpn]at hpv hb2
    have c1:w9.cell? ⟨pb,1,none⟩=some (.slice (some ⟨bb,0,none⟩) (mm+1) bc):=hp9.cell 1
    have c2:w9.cell? ⟨bb,mm*6+1,none⟩=some (.slice pa pn pc):=by
     rw[←hpv]
     refine hbcell (mm*6+1) b.inv ?_
     have h9:=flat_at fbcells 6 fbcells_len bl mm 1 b (by rw[←hm1];exact HB.out) (by decide)
     exact h9
    obtain⟨cur,hbbh⟩:=own_heap hp9.row (q:=bb) rfl
    have HBB:=Lib.hid (show HeapIs w9 bb cur 57 from hbbh)
    have HROW:=Lib.hid (show OwnRow ficells 5 51 0 w9 (.slice pa pn pc) b.ins from by rw[←hpv];exact HBL.out.ins)
    have hpl:pb<w9.heap.size:=hp9.box.lt
    have HC1:=Lib.hid c1
    have HC2:=Lib.hid c2
    have HM1:=Lib.hid hm1
    have HPV:=Lib.hid hpv
    have HPN:=Lib.hid hpn
    have HMM:=Lib.hid hmm
    have HLT:=Lib.hid (show pb<w9.heap.size∧bb<w9.heap.size from⟨hpl,hbbl⟩)
    have HNO:=Lib.hid (show ¬ (Value.slice pa pn pc).ownBlock=some pb∧¬ (Value.slice pa pn pc).ownBlock=some bb∧¬ (Value.slice pa pn pc).ownBlock=some xb from by
     rw[←hpv]
     exact⟨own_not HBL.out.ins hp9.box (by decide),fun e=>own_ne HBL.out.ins hp9.row (by decide) bb e rfl,fun e=>by have:=H.out.lt xb (.inr (.inr ⟨b,HB.out,.inr e⟩));have:=HAL.out;omega⟩)
    clear hp9 hpos hbbl hbbs hbcell hm1 hpv hpn hmm hbc2 c2 hbbh hx9 ht hxo hxd ht9 c1 hpl
    refine wp_region_one 10 9 [9] [0,0,0,0,0,0,0,0,0,0] [0,0,0,0,0,0,0,0,0,0] [0,0,0,0,0,0,0,0,0,1] (fun q=>(Value.slice pa pn pc).ownBlock=some q) (fun p w8=>p=0→Since w9 w8) rfl (by decide +kernel) (by decide +kernel) (by decide +kernel) (by decide) (by decide +kernel)
     [Is (.pointer (some ⟨pb,0,none⟩)),Is (.pointer (some ⟨bb,mm*6,none⟩)),Is (.pointer (some ⟨pb,0,none⟩)),Is (.pointer (some ⟨bb,mm*6,none⟩)),Is (.pointer (some ⟨bb,mm*6,none⟩)),Is (.pointer (some ⟨bb,mm*6+1,none⟩)),Is (Value.slice pa pn pc),Is (fiv X),OneOf ficells 51 (fun q=>(Value.slice pa pn pc).ownBlock=some q) X,AppOf ficells 5 51 w9 (Value.slice pa pn pc) (b.ins++[X])]
     (by repeat (first | exact trivial | refine⟨fun h=>absurd rfl h,?_⟩ | refine⟨fun _=>Is.stableT _ _,?_⟩ | refine⟨fun _=>Any.stableT _,?_⟩ | refine⟨fun _=>OneOf.stableT _ _ _ _,?_⟩)) (by repeat (first | exact trivial | refine⟨Is.stable _,?_⟩ | refine⟨Any.stable,?_⟩ | refine⟨OneOf.stable _ _ _ _,?_⟩ | refine⟨AppOf.stable _ _ _ _ _ _,?_⟩)) (fun _=>(Since.refl w9).drew) ⟨?_,?_,?_,?_,?_,?_,?_,?_,?_,?_,trivial⟩ ?_
    rotate_right
    ·intro vs w8 ht hph hk
     simp only[List.take,List.drop,putAll,Act.put,KnowsAll,nthF,Is,List.setIfInBounds_toArray,List.set_cons_zero,List.set_cons_succ,Nat.reduceAdd]at hk ⊢
     try simp only[hk]
     obtain⟨wa,hsa,hta,hnew,hown⟩:AppOf ficells 5 51 w9 (Value.slice pa pn pc) (b.ins++[X]) (vs 9) w8:=by exact hk.2.2.2.2.2.2.2.2.2.1
     generalize vs 9=nw at *
     obtain⟨ja,jc,hjv⟩:=own_shape hown
     rw[List.length_append,HPN.out]at hjv
     subst hjv
     have hbb8:=HBB.out.turn ht HNO.out.2.1
     have hbl8:=hbb8.lt
     have hbf8:=hbb8.frozen
     have k1:w8.cell? ⟨bb,mm*6+1,none⟩=some (Value.slice pa pn pc):=(ht.cell HLT.out.2 HNO.out.2.1).trans HC2.out
     have HOWN:=Lib.hid hown
     have HT8:=Lib.hid ht
     have HTA:=Lib.hid hta
     have HSA:=Lib.hid hsa
     have HNEW:=Lib.hid hnew
     clear hk hph ht hsa hta hnew hbb8 hown
     go_wp2
     go_end0
     have hbl:=HBL.out
     have hphi:=own_turn hbl.phis HT8.out (fun q hq hr=>own_ne hbl.phis hbl.ins (by decide) q hq (by rw[HPV.out];exact hr))
     have hnp:NewOr w9 b.inv (.slice ja (pn+1) jc):=fun q hq=>by
      rcases HNEW.out q hq with h1|h1
      ·exact .inl (by rw[HPV.out];exact h1)
      ·have:=HSA.out.size;exact .inr (by omega)
     have hup:=PaM.upd HP9.out (b':={ b with ins:=b.ins++[X],inv:=.slice ja (pn+1) jc }) HB.out (bb:=bb) (cap:=bc) (by rw[HMM.out]) (w1:=w8) (HT8.out.mono (fun q _ hq=>.inr (by rw[HPV.out];exact hq))) 1 (by decide) (.slice ja (pn+1) jc) rfl hphi HOWN.out (fun q hq=>.inl hq) hnp hbl.phi (fun p hp=>by rcases List.mem_append.1 hp with h1 | h1;exact hbl.inx p h1;rw[List.mem_singleton.1 h1];exact HXO.out) hbl.term
     rw[HM1.out]at hup
     refine⟨rfl,numsE 0 l,_,hup,?_,?_⟩
     ·refine ((HT9.out.mono fun q _ hq=>.inl hq:Turn (PaOwn pb _ bl) w w9).trans (HT8.out.mono fun q _ hq=>.inr (.inr ⟨b,HB.out,.inr (by rw[HPV.out];exact hq)⟩))).setCell ?_ _
      exact .inr (.inl rfl)
     ·rw[HANS.out]
      unfold numsE
      cases hok:areNums l
      ·exact⟨rfl,by decide⟩
      ·refine⟨rfl,rfl,?_⟩
       have:=last_set (b':={ b with ins:=b.ins++[X],inv:=.slice ja (pn+1) jc }) HB.out ⟨params,bl.map FBlk.d,pl⟩ rfl (fun b=>⟨b.phis,b.ins++[insOf op (numsW l)],b.term⟩) (by rw[HNS.out,←HXD.out];simp[FBlk.d])
       rw[HM1.out]at this
       exact this
    all_goals
     intro p vs w8 hlo hhi ht hph hk
     simp only[List.take,putAll,Act.put,Knows,nthF,Is,List.setIfInBounds_toArray,List.set_cons_zero,List.set_cons_succ,Nat.reduceAdd]at hk ⊢
     try simp only[hk]
    ·go_wp2
     exact⟨_,rfl,rfl,Since.refl _,hph⟩
    ·have k1:w8.cell? ⟨pb,1,none⟩=some (.slice (some ⟨bb,0,none⟩) (mm+1) bc):=(ht.cell HLT.out.1 HNO.out.1).trans HC1.out
     have k2:pb<w8.heap.size:=Nat.lt_of_lt_of_le HLT.out.1 ht.size
     clear hk
     go_wp2_with fail
     refine (last_any w8 k1 k2 (by omega)).mono ?_
     rintro e3 w3 ⟨rfl,hs3⟩
     have HPH:=Lib.hid (fun (e:p=0)=>(hph e).trans hs3)
     have HS3:=Lib.hid hs3
     clear hph hs3 k1
     go_wp2
     exact⟨_,rfl,rfl,HS3.out,HPH.out⟩
    ·go_wp2
     exact⟨_,rfl,rfl,Since.refl _,hph⟩
    ·have k1:w8.cell? ⟨pb,1,none⟩=some (.slice (some ⟨bb,0,none⟩) (mm+1) bc):=(ht.cell HLT.out.1 HNO.out.1).trans HC1.out
     have k2:pb<w8.heap.size:=Nat.lt_of_lt_of_le HLT.out.1 ht.size
     clear hk
     go_wp2_with fail
     refine (last_any w8 k1 k2 (by omega)).mono ?_
     rintro e3 w3 ⟨rfl,hs3⟩
     have HPH:=Lib.hid (fun (e:p=0)=>(hph e).trans hs3)
     have HS3:=Lib.hid hs3
     clear hph hs3 k1
     go_wp2
     exact⟨_,rfl,rfl,HS3.out,HPH.out⟩
    ·go_wp2
     exact⟨_,rfl,rfl,Since.refl _,hph⟩
    ·go_wp2
     exact⟨_,rfl,rfl,Since.refl _,hph⟩
    ·have k1:w8.cell? ⟨bb,mm*6+1,none⟩=some (Value.slice pa pn pc):=(ht.cell HLT.out.2 HNO.out.2.1).trans HC2.out
     have k2:bb<w8.heap.size:=Nat.lt_of_lt_of_le HLT.out.2 ht.size
     go_wp2
     exact⟨_,rfl,rfl,Since.refl _,hph⟩
    ·have hbx:=HX9.out.turn ht HNO.out.2.2
     clear hk
     refine wpList_load_row rfl _ _ rfl xb rfl 51 _ (0,0) _ hbx Tryz.underlying51 rfl (by kernel_rfl) ?_
     go_wp2
     exact⟨_,rfl,rfl,Since.refl _,hph⟩
    ·have hne:¬ (Value.slice pa pn pc).ownBlock=some w8.heap.size:=fun e=>by have:=(World.ownsRow.lt HROW.out _ e).2;have:=ht.size;omega
     have hs2:=(Since.refl w8).alloc (.cells (ficells X).toArray 51)
     have HP:=Lib.hid (fun (e:p=0)=>(hph e).trans hs2)
     clear hk hph
     unfold fiv
     go_wp2
     exact⟨_,rfl,⟨_,rfl,HeapIs.new _ _ _,hne⟩,hs2,HP.out⟩
    ·obtain rfl:p=0:=by omega
     have hs0:=hph rfl
     obtain⟨b1,hb3,hb4,hb5⟩:OneOf ficells 51 (fun q=>(Value.slice pa pn pc).ownBlock=some q) X (vs 8) w8:=hk.2.1
     simp only[hb3]
     have hrow:=OwnRow.keep HROW.out hs0
     have HS0:=Lib.hid hs0
     clear hk hph hs0 hb3
     refine wpList_append_one2 ficells 5 ficells_len (by decide) rfl _ _ 52 rfl 51 (.agg #[.int .i64 0,.int .i64 0,.int .i64 0,.slice none 0 0,.int .i32 0]) 56 Tryz.underlying52 (by kernel_rfl) rfl (Value.slice pa pn pc) _ X b1 1 _ rfl rfl hrow hb4 (by obtain⟨za,zc,ze⟩:=nums_lenI HXO.out.1;unfold ficells;rw[ze];simp[Value.oneCell']) (by rw[HPN.out];unfold maxLen;omega) (by rw[HPN.out];omega) (Nat.zero_le _) ?_
     intro v' w3 hown ht3 hnew
     have HA:=Lib.hid (show AppOf ficells 5 51 w9 (Value.slice pa pn pc) (b.ins++[X]) v' w3 from⟨w8,HS0.out,ht3,hnew,hown⟩)
     have HT3:=Lib.hid ht3
     clear hown ht3 hnew hrow hb4 hb5
     go_wp2
     exact⟨_,rfl,HA.out,HT3.out,fun e=>absurd e (by decide)⟩
   clear aK3 HAK HB HANS
   have hgl:=HGL.out
   have hgx:g≠xb:=by have:=HGX.out;omega
   have hxg:xb≠g:=fun e=>hgx e.symm
   have hbl:=HBOX.out.lt
   have hbf:=HBOX.out.frozen
   by_cases h1:op=1
   ·subst h1
    obtain⟨rfl,rfl⟩:L=2∧M=2:=⟨HLM.out.1.symm,HLM.out.2.symm⟩
    obtain rfl:n=2:=by omega
    obtain⟨x1,rfl⟩:=list1 (show nt0.length=1 from by have:=HNSL.out;rw[HN0.out]at this;simpa using this)
    obtain rfl:=HN0.out
    have c1:w6.cell? ⟨g,1,none⟩=some (.int .i64 x1):=HGC5.out 1 _ rfl
    have w1:wrap32 x1=x1:=wrap32_of (HN32.out x1 (by simp))
    have k4:=HBOX.out.cell 4
    go_wp2
    refine HJ.out ⟨1,x0,0,[],.slice none 0 0,x1⟩ (HBOX.out.set 4 _) ((Turn.refl (fun q=>q=xb) w6).setCell (p:=⟨xb,4,none⟩) rfl _) ?_ ?_
    ·exact⟨.nil _ _,Stays.nil _ _⟩
    ·simp[insOf,FIns.d]
   ·skip
    by_cases h15:op=15
    ·subst h15
     obtain⟨rfl,rfl⟩:L=3∧M=3:=⟨HLM.out.1.symm,HLM.out.2.symm⟩
     obtain rfl:n=3:=by omega
     obtain⟨x1,x2,rfl⟩:=list2 (show nt0.length=2 from by have:=HNSL.out;rw[HN0.out]at this;simpa using this)
     obtain rfl:=HN0.out
     have c1:w6.cell? ⟨g,1,none⟩=some (.int .i64 x1):=HGC5.out 1 _ rfl
     have c2:w6.cell? ⟨g,2,none⟩=some (.int .i64 x2):=HGC5.out 2 _ rfl
     have w2:wrap32 x2=x2:=wrap32_of (HN32.out x2 (by simp))
     go_wp2_with fail
     refine wp_region_phases [7,9] [0,0,0,0,0,0,0,0,1,1] [0,0,1,1,1,1,0,0,1,1] [0,0,0,0,0,0,0,1,0,1] (fun p w8=>ArgPh xb w6 (([#[.int .i64 15,.int .i64 x0,.int .i64 0,.slice none 0 0,.int .i32 0],#[.int .i64 15,.int .i64 x0,.int .i64 0,.slice (some ⟨g,1,none⟩) 1 (gc-1),.int .i32 0],#[.int .i64 15,.int .i64 x0,.int .i64 0,.slice (some ⟨g,1,none⟩) 1 (gc-1),.int .i32 x2]]:List (Array Value)).getD p #[]) w8) rfl (by decide +kernel) (by decide +kernel) (by decide +kernel)
      [Is (.slice (some ⟨g,0,none⟩) 3 gc),Is (.slice (some ⟨g,1,none⟩) 1 (gc-1)),Is (.slice (some ⟨g,0,none⟩) 3 gc),Is (.pointer (some ⟨g,2,none⟩)),Is (.int .i64 x2),Is (.int .i32 x2),Is (.pointer (some ⟨xb,3,none⟩)),Any,Is (.pointer (some ⟨xb,4,none⟩)),Any]
      (by repeat (first | exact trivial | refine⟨Is.fixed _,?_⟩ | refine⟨Any.fixed,?_⟩)) ⟨Turn.since ((Since.refl w6).drew),HBOX.out.keep ((Since.refl w6).drew)⟩ ⟨?_,?_,?_,?_,?_,?_,?_,?_,?_,?_,trivial⟩ ?_
     rotate_right
     ·intro vs w8 _ hph hk
      simp only[putAll,Act.put,KnowsAll,nthF,Is,Any,List.setIfInBounds_toArray,List.set_cons_zero,List.set_cons_succ,Nat.reduceAdd,List.length_cons,List.length_nil]at hk ⊢
      try simp only[hk]
      have HB8:=Lib.hid (show HeapIs w8 xb #[.int .i64 15,.int .i64 x0,.int .i64 0,.slice (some ⟨g,1,none⟩) 1 (gc-1),.int .i32 x2] 51 from hph.b)
      have HT8:=Lib.hid hph.t
      clear hph hk
      go_wp2
      refine HJ.out ⟨15,x0,0,[x1],.slice (some ⟨g,1,none⟩) 1 (gc-1),x2⟩ HB8.out HT8.out ?_ ?_
      ·exact⟨ints_part HGC5.out HGL.out 1 1 (gc-1) (by simp) (by omega) (by have:=HG2.out;omega),fun q hq=>by cases hq;exact⟨HNG.out,HGL.out⟩⟩
      ·simp[insOf,FIns.d]
     all_goals
      intro p vs w8 hlo hhi _ hph hk
      simp only[putAll,Act.put,Knows,nthF,Is,Any,List.setIfInBounds_toArray,List.set_cons_zero,List.set_cons_succ,Nat.reduceAdd]at hk ⊢
      try simp only[hk]
     ·go_wp2
      exact⟨_,rfl,rfl,trivial,hph⟩
     ·go_wp2
      exact⟨_,rfl,rfl,trivial,hph⟩
     ·go_wp2
      exact⟨_,rfl,rfl,trivial,hph⟩
     ·go_wp2
      exact⟨_,rfl,rfl,trivial,hph⟩
     ·have z1:w8.cell? ⟨g,2,none⟩=some (.int .i64 x2):=(hph.t.cell (p:=⟨g,2,none⟩) hgl hgx).trans c2
      have z2:g<w8.heap.size:=Nat.lt_of_lt_of_le hgl hph.t.size
      go_wp2
      exact⟨_,rfl,rfl,trivial,hph⟩
     ·go_wp2
      exact⟨_,rfl,congrArg (Value.int IntKind.i32) w2,trivial,hph⟩
     ·go_wp2
      exact⟨_,rfl,rfl,trivial,hph⟩
     ·obtain rfl:p=0:=by omega
      have hb8:HeapIs w8 xb #[.int .i64 15,.int .i64 x0,.int .i64 0,.slice none 0 0,.int .i32 0] 51:=hph.b
      have z1:=hb8.cell 3
      have hbl8:=hb8.lt
      have hbf8:=hb8.frozen
      have HB8:=Lib.hid hb8
      have HT8:=Lib.hid hph.t
      clear hph hb8 hlo hhi
      go_wp2
      exact⟨undef,rfl,trivial,trivial,⟨HT8.out.setCell (p:=⟨xb,3,none⟩) rfl _,HB8.out.set 3 _⟩⟩
     ·go_wp2
      exact⟨_,rfl,rfl,trivial,hph⟩
     ·obtain rfl:p=1:=by omega
      have hb8:HeapIs w8 xb #[.int .i64 15,.int .i64 x0,.int .i64 0,.slice (some ⟨g,1,none⟩) 1 (gc-1),.int .i32 0] 51:=hph.b
      have z1:=hb8.cell 4
      have hbl8:=hb8.lt
      have hbf8:=hb8.frozen
      have HB8:=Lib.hid hb8
      have HT8:=Lib.hid hph.t
      clear hph hb8 hlo hhi
      go_wp2
      exact⟨undef,rfl,trivial,trivial,⟨HT8.out.setCell (p:=⟨xb,4,none⟩) rfl _,HB8.out.set 4 _⟩⟩
    ·skip
     by_cases h16:op=16
     ·subst h16
      obtain⟨rfl,rfl⟩:L=3∧M=3:=⟨HLM.out.1.symm,HLM.out.2.symm⟩
      obtain rfl:n=3:=by omega
      obtain⟨x1,x2,rfl⟩:=list2 (show nt0.length=2 from by have:=HNSL.out;rw[HN0.out]at this;simpa using this)
      obtain rfl:=HN0.out
      have c1:w6.cell? ⟨g,1,none⟩=some (.int .i64 x1):=HGC5.out 1 _ rfl
      have c2:w6.cell? ⟨g,2,none⟩=some (.int .i64 x2):=HGC5.out 2 _ rfl
      have w2:wrap32 x2=x2:=wrap32_of (HN32.out x2 (by simp))
      go_wp2_with fail
      refine wp_region_phases [7,9,11] [0,0,0,0,0,0,0,0,1,1,2,2] [1,1,2,2,2,2,0,0,1,1,2,2] [0,0,0,0,0,0,0,1,0,1,0,1] (fun p w8=>ArgPh xb w6 (([#[.int .i64 16,.int .i64 x0,.int .i64 0,.slice none 0 0,.int .i32 0],#[.int .i64 16,.int .i64 0,.int .i64 0,.slice none 0 0,.int .i32 0],#[.int .i64 16,.int .i64 0,.int .i64 0,.slice (some ⟨g,0,none⟩) 2 gc,.int .i32 0],#[.int .i64 16,.int .i64 0,.int .i64 0,.slice (some ⟨g,0,none⟩) 2 gc,.int .i32 x2]]:List (Array Value)).getD p #[]) w8) rfl (by decide +kernel) (by decide +kernel) (by decide +kernel)
       [Is (.slice (some ⟨g,0,none⟩) 3 gc),Is (.slice (some ⟨g,0,none⟩) 2 gc),Is (.slice (some ⟨g,0,none⟩) 3 gc),Is (.pointer (some ⟨g,2,none⟩)),Is (.int .i64 x2),Is (.int .i32 x2),Is (.pointer (some ⟨xb,1,none⟩)),Any,Is (.pointer (some ⟨xb,3,none⟩)),Any,Is (.pointer (some ⟨xb,4,none⟩)),Any]
       (by repeat (first | exact trivial | refine⟨Is.fixed _,?_⟩ | refine⟨Any.fixed,?_⟩)) ⟨Turn.since ((Since.refl w6).drew),HBOX.out.keep ((Since.refl w6).drew)⟩ ⟨?_,?_,?_,?_,?_,?_,?_,?_,?_,?_,?_,?_,trivial⟩ ?_
      rotate_right
      ·intro vs w8 _ hph hk
       simp only[putAll,Act.put,KnowsAll,nthF,Is,Any,List.setIfInBounds_toArray,List.set_cons_zero,List.set_cons_succ,Nat.reduceAdd,List.length_cons,List.length_nil]at hk ⊢
       try simp only[hk]
       have HB8:=Lib.hid (show HeapIs w8 xb #[.int .i64 16,.int .i64 0,.int .i64 0,.slice (some ⟨g,0,none⟩) 2 gc,.int .i32 x2] 51 from hph.b)
       have HT8:=Lib.hid hph.t
       clear hph hk
       go_wp2
       refine HJ.out ⟨16,0,0,[x0,x1],.slice (some ⟨g,0,none⟩) 2 gc,x2⟩ HB8.out HT8.out ?_ ?_
       ·exact⟨ints_part HGC5.out HGL.out 0 2 gc (by simp) (by omega) HG2.out,fun q hq=>by cases hq;exact⟨HNG.out,HGL.out⟩⟩
       ·simp[insOf,FIns.d]
      all_goals
       intro p vs w8 hlo hhi _ hph hk
       simp only[putAll,Act.put,Knows,nthF,Is,Any,List.setIfInBounds_toArray,List.set_cons_zero,List.set_cons_succ,Nat.reduceAdd]at hk ⊢
       try simp only[hk]
      ·go_wp2
       exact⟨_,rfl,rfl,trivial,hph⟩
      ·go_wp2
       exact⟨_,rfl,rfl,trivial,hph⟩
      ·go_wp2
       exact⟨_,rfl,rfl,trivial,hph⟩
      ·go_wp2
       exact⟨_,rfl,rfl,trivial,hph⟩
      ·have z1:w8.cell? ⟨g,2,none⟩=some (.int .i64 x2):=(hph.t.cell (p:=⟨g,2,none⟩) hgl hgx).trans c2
       have z2:g<w8.heap.size:=Nat.lt_of_lt_of_le hgl hph.t.size
       go_wp2
       exact⟨_,rfl,rfl,trivial,hph⟩
      ·go_wp2
       exact⟨_,rfl,congrArg (Value.int IntKind.i32) w2,trivial,hph⟩
      ·go_wp2
       exact⟨_,rfl,rfl,trivial,hph⟩
      ·obtain rfl:p=0:=by omega
       have hb8:HeapIs w8 xb #[.int .i64 16,.int .i64 x0,.int .i64 0,.slice none 0 0,.int .i32 0] 51:=hph.b
       have z1:=hb8.cell 1
       have hbl8:=hb8.lt
       have hbf8:=hb8.frozen
       have HB8:=Lib.hid hb8
       have HT8:=Lib.hid hph.t
       clear hph hb8 hlo hhi
       go_wp2
       exact⟨undef,rfl,trivial,trivial,⟨HT8.out.setCell (p:=⟨xb,1,none⟩) rfl _,HB8.out.set 1 _⟩⟩
      ·go_wp2
       exact⟨_,rfl,rfl,trivial,hph⟩
      ·obtain rfl:p=1:=by omega
       have hb8:HeapIs w8 xb #[.int .i64 16,.int .i64 0,.int .i64 0,.slice none 0 0,.int .i32 0] 51:=hph.b
       have z1:=hb8.cell 3
       have hbl8:=hb8.lt
       have hbf8:=hb8.frozen
       have HB8:=Lib.hid hb8
       have HT8:=Lib.hid hph.t
       clear hph hb8 hlo hhi
       go_wp2
       exact⟨undef,rfl,trivial,trivial,⟨HT8.out.setCell (p:=⟨xb,3,none⟩) rfl _,HB8.out.set 3 _⟩⟩
      ·go_wp2
       exact⟨_,rfl,rfl,trivial,hph⟩
      ·obtain rfl:p=2:=by omega
       have hb8:HeapIs w8 xb #[.int .i64 16,.int .i64 0,.int .i64 0,.slice (some ⟨g,0,none⟩) 2 gc,.int .i32 0] 51:=hph.b
       have z1:=hb8.cell 4
       have hbl8:=hb8.lt
       have hbf8:=hb8.frozen
       have HB8:=Lib.hid hb8
       have HT8:=Lib.hid hph.t
       clear hph hb8 hlo hhi
       go_wp2
       exact⟨undef,rfl,trivial,trivial,⟨HT8.out.setCell (p:=⟨xb,4,none⟩) rfl _,HB8.out.set 4 _⟩⟩
     ·skip
      by_cases h17:op=17
      ·subst h17
       obtain⟨rfl,rfl⟩:L=2∧M=6:=⟨HLM.out.1.symm,HLM.out.2.symm⟩
       obtain⟨x1,nt,rfl⟩:∃ x1 nt,nt0=x1::nt:=by
        match nt0,HN0.out with
        | x1::nt,_=>exact⟨x1,nt,rfl⟩
        | [],h=>exact absurd HNSL.out (by rw[h];simp;omega)
       obtain rfl:=HN0.out
       have c1:w6.cell? ⟨g,1,none⟩=some (.int .i64 x1):=HGC5.out 1 _ rfl
       have w1:wrap32 x1=x1:=wrap32_of (HN32.out x1 (by simp))
       obtain⟨ra,hra⟩:∃ ra,(if gc=2 then some (⟨g,0,none⟩:Addr) else some ⟨g,2,none⟩)=ra:=⟨_,rfl⟩
       have HARG:Hid (InsOk (fun q=>PaS w0 pb bv bl q∨q=xb) w6 ⟨17,x0,0,nt,.slice ra (n-2) (gc-2),x1⟩):=Lib.hid (by
        rw[←hra]
        by_cases hg:gc=2
        ·rw[if_pos hg]
         have hn2:n=2:=by omega
         subst hn2 hg
         obtain rfl:nt=[]:=List.eq_nil_of_length_eq_zero (by have:=HNSL.out;simp at this;simpa using this)
         exact⟨.inl ⟨_,rfl,rfl⟩,fun q hq=>by cases hq;exact⟨HNG.out,HGL.out⟩⟩
        ·rw[if_neg hg]
         exact⟨ints_part2 HGC5.out HGL.out 2 (n-2) (gc-2) (by rw[HNSL.out];omega) (by rw[HNSL.out]) (by omega) (by have:=HG2.out;omega),fun q hq=>by cases hq;exact⟨HNG.out,HGL.out⟩⟩)
       go_wp2_with fail
       refine wp_region_phases [7,9] [0,0,0,0,0,0,0,0,1,1] [0,0,0,0,1,1,0,0,1,1] [0,0,0,0,0,0,0,1,0,1] (fun p w8=>ArgPh xb w6 (([#[.int .i64 17,.int .i64 x0,.int .i64 0,.slice none 0 0,.int .i32 0],#[.int .i64 17,.int .i64 x0,.int .i64 0,.slice none 0 0,.int .i32 x1],#[.int .i64 17,.int .i64 x0,.int .i64 0,.slice ra (n-2) (gc-2),.int .i32 x1]]:List (Array Value)).getD p #[]) w8) rfl (by decide +kernel) (by decide +kernel) (by decide +kernel)
        [Is (.slice (some ⟨g,0,none⟩) n gc),Is (.pointer (some ⟨g,1,none⟩)),Is (.int .i64 x1),Is (.int .i32 x1),Is (.slice (some ⟨g,0,none⟩) n gc),Is (.slice ra (n-2) (gc-2)),Is (.pointer (some ⟨xb,4,none⟩)),Any,Is (.pointer (some ⟨xb,3,none⟩)),Any]
        (by repeat (first | exact trivial | refine⟨Is.fixed _,?_⟩ | refine⟨Any.fixed,?_⟩)) ⟨Turn.since ((Since.refl w6).drew),HBOX.out.keep ((Since.refl w6).drew)⟩ ⟨?_,?_,?_,?_,?_,?_,?_,?_,?_,?_,trivial⟩ ?_
       rotate_right
       ·intro vs w8 _ hph hk
        simp only[putAll,Act.put,KnowsAll,nthF,Is,Any,List.setIfInBounds_toArray,List.set_cons_zero,List.set_cons_succ,Nat.reduceAdd,List.length_cons,List.length_nil]at hk ⊢
        try simp only[hk]
        have HB8:=Lib.hid (show HeapIs w8 xb #[.int .i64 17,.int .i64 x0,.int .i64 0,.slice ra (n-2) (gc-2),.int .i32 x1] 51 from hph.b)
        have HT8:=Lib.hid hph.t
        clear hph hk
        go_wp2
        refine HJ.out ⟨17,x0,0,nt,.slice ra (n-2) (gc-2),x1⟩ HB8.out HT8.out ?_ ?_
        ·exact HARG.out
        ·simp[insOf,FIns.d]
       all_goals
        intro p vs w8 hlo hhi _ hph hk
        simp only[putAll,Act.put,Knows,nthF,Is,Any,List.setIfInBounds_toArray,List.set_cons_zero,List.set_cons_succ,Nat.reduceAdd]at hk ⊢
        try simp only[hk]
       ·go_wp2
        exact⟨_,rfl,rfl,trivial,hph⟩
       ·go_wp2
        exact⟨_,rfl,rfl,trivial,hph⟩
       ·have z1:w8.cell? ⟨g,1,none⟩=some (.int .i64 x1):=(hph.t.cell (p:=⟨g,1,none⟩) hgl hgx).trans c1
        have z2:g<w8.heap.size:=Nat.lt_of_lt_of_le hgl hph.t.size
        go_wp2
        exact⟨_,rfl,rfl,trivial,hph⟩
       ·go_wp2
        exact⟨_,rfl,congrArg (Value.int IntKind.i32) w1,trivial,hph⟩
       ·go_wp2
        exact⟨_,rfl,rfl,trivial,hph⟩
       ·go_wp2
        exact⟨_,rfl,rfl,trivial,hph⟩
       ·go_wp2
        exact⟨_,rfl,rfl,trivial,hph⟩
       ·obtain rfl:p=0:=by omega
        have hb8:HeapIs w8 xb #[.int .i64 17,.int .i64 x0,.int .i64 0,.slice none 0 0,.int .i32 0] 51:=hph.b
        have z1:=hb8.cell 4
        have hbl8:=hb8.lt
        have hbf8:=hb8.frozen
        have HB8:=Lib.hid hb8
        have HT8:=Lib.hid hph.t
        clear hph hb8 hlo hhi
        go_wp2
        exact⟨undef,rfl,trivial,trivial,⟨HT8.out.setCell (p:=⟨xb,4,none⟩) rfl _,HB8.out.set 4 _⟩⟩
       ·go_wp2
        exact⟨_,rfl,rfl,trivial,hph⟩
       ·obtain rfl:p=1:=by omega
        have hb8:HeapIs w8 xb #[.int .i64 17,.int .i64 x0,.int .i64 0,.slice none 0 0,.int .i32 x1] 51:=hph.b
        have z1:=hb8.cell 3
        have hbl8:=hb8.lt
        have hbf8:=hb8.frozen
        have HB8:=Lib.hid hb8
        have HT8:=Lib.hid hph.t
        clear hph hb8 hlo hhi
        go_wp2
        exact⟨undef,rfl,trivial,trivial,⟨HT8.out.setCell (p:=⟨xb,3,none⟩) rfl _,HB8.out.set 3 _⟩⟩
      ·skip
       by_cases h18:op=18
       ·subst h18
        obtain⟨rfl,rfl⟩:L=4∧M=4:=⟨HLM.out.1.symm,HLM.out.2.symm⟩
        obtain rfl:n=4:=by omega
        obtain⟨x1,x2,x3,rfl⟩:=list3 (show nt0.length=3 from by have:=HNSL.out;rw[HN0.out]at this;simpa using this)
        obtain rfl:=HN0.out
        have c1:w6.cell? ⟨g,1,none⟩=some (.int .i64 x1):=HGC5.out 1 _ rfl
        have c2:w6.cell? ⟨g,2,none⟩=some (.int .i64 x2):=HGC5.out 2 _ rfl
        have c3:w6.cell? ⟨g,3,none⟩=some (.int .i64 x3):=HGC5.out 3 _ rfl
        go_wp2_with fail
        refine wp_region_phases [6,8] [0,0,0,0,0,0,0,1,1] [0,0,0,1,1,0,0,1,1] [0,0,0,0,0,0,1,0,1] (fun p w8=>ArgPh xb w6 (([#[.int .i64 18,.int .i64 x0,.int .i64 0,.slice none 0 0,.int .i32 0],#[.int .i64 18,.int .i64 x0,.int .i64 x1,.slice none 0 0,.int .i32 0],#[.int .i64 18,.int .i64 x0,.int .i64 x1,.slice (some ⟨g,2,none⟩) 2 (gc-2),.int .i32 0]]:List (Array Value)).getD p #[]) w8) rfl (by decide +kernel) (by decide +kernel) (by decide +kernel)
         [Is (.slice (some ⟨g,0,none⟩) 4 gc),Is (.pointer (some ⟨g,1,none⟩)),Is (.int .i64 x1),Is (.slice (some ⟨g,0,none⟩) 4 gc),Is (.slice (some ⟨g,2,none⟩) 2 (gc-2)),Is (.pointer (some ⟨xb,2,none⟩)),Any,Is (.pointer (some ⟨xb,3,none⟩)),Any]
         (by repeat (first | exact trivial | refine⟨Is.fixed _,?_⟩ | refine⟨Any.fixed,?_⟩)) ⟨Turn.since ((Since.refl w6).drew),HBOX.out.keep ((Since.refl w6).drew)⟩ ⟨?_,?_,?_,?_,?_,?_,?_,?_,?_,trivial⟩ ?_
        rotate_right
        ·intro vs w8 _ hph hk
         simp only[putAll,Act.put,KnowsAll,nthF,Is,Any,List.setIfInBounds_toArray,List.set_cons_zero,List.set_cons_succ,Nat.reduceAdd,List.length_cons,List.length_nil]at hk ⊢
         try simp only[hk]
         have HB8:=Lib.hid (show HeapIs w8 xb #[.int .i64 18,.int .i64 x0,.int .i64 x1,.slice (some ⟨g,2,none⟩) 2 (gc-2),.int .i32 0] 51 from hph.b)
         have HT8:=Lib.hid hph.t
         clear hph hk
         go_wp2
         refine HJ.out ⟨18,x0,x1,[x2,x3],.slice (some ⟨g,2,none⟩) 2 (gc-2),0⟩ HB8.out HT8.out ?_ ?_
         ·exact⟨ints_part HGC5.out HGL.out 2 2 (gc-2) (by simp) (by omega) (by have:=HG2.out;omega),fun q hq=>by cases hq;exact⟨HNG.out,HGL.out⟩⟩
         ·simp[insOf,FIns.d]
        all_goals
         intro p vs w8 hlo hhi _ hph hk
         simp only[putAll,Act.put,Knows,nthF,Is,Any,List.setIfInBounds_toArray,List.set_cons_zero,List.set_cons_succ,Nat.reduceAdd]at hk ⊢
         try simp only[hk]
        ·go_wp2
         exact⟨_,rfl,rfl,trivial,hph⟩
        ·go_wp2
         exact⟨_,rfl,rfl,trivial,hph⟩
        ·have z1:w8.cell? ⟨g,1,none⟩=some (.int .i64 x1):=(hph.t.cell (p:=⟨g,1,none⟩) hgl hgx).trans c1
         have z2:g<w8.heap.size:=Nat.lt_of_lt_of_le hgl hph.t.size
         go_wp2
         exact⟨_,rfl,rfl,trivial,hph⟩
        ·go_wp2
         exact⟨_,rfl,rfl,trivial,hph⟩
        ·go_wp2
         exact⟨_,rfl,rfl,trivial,hph⟩
        ·go_wp2
         exact⟨_,rfl,rfl,trivial,hph⟩
        ·obtain rfl:p=0:=by omega
         have hb8:HeapIs w8 xb #[.int .i64 18,.int .i64 x0,.int .i64 0,.slice none 0 0,.int .i32 0] 51:=hph.b
         have z1:=hb8.cell 2
         have hbl8:=hb8.lt
         have hbf8:=hb8.frozen
         have HB8:=Lib.hid hb8
         have HT8:=Lib.hid hph.t
         clear hph hb8 hlo hhi
         go_wp2
         exact⟨undef,rfl,trivial,trivial,⟨HT8.out.setCell (p:=⟨xb,2,none⟩) rfl _,HB8.out.set 2 _⟩⟩
        ·go_wp2
         exact⟨_,rfl,rfl,trivial,hph⟩
        ·obtain rfl:p=1:=by omega
         have hb8:HeapIs w8 xb #[.int .i64 18,.int .i64 x0,.int .i64 x1,.slice none 0 0,.int .i32 0] 51:=hph.b
         have z1:=hb8.cell 3
         have hbl8:=hb8.lt
         have hbf8:=hb8.frozen
         have HB8:=Lib.hid hb8
         have HT8:=Lib.hid hph.t
         clear hph hb8 hlo hhi
         go_wp2
         exact⟨undef,rfl,trivial,trivial,⟨HT8.out.setCell (p:=⟨xb,3,none⟩) rfl _,HB8.out.set 3 _⟩⟩
       ·skip
        obtain⟨rfl,rfl⟩:L=3∧M=3:=by have h:=HLM.out;simp only[least,most,if_neg h1,if_neg h17,if_neg h18]at h;exact⟨h.1.symm,h.2.symm⟩
        have q1:(op==1)=false:=by simpa using h1
        have q15:(op==15)=false:=by simpa using h15
        have q16:(op==16)=false:=by simpa using h16
        have q17:(op==17)=false:=by simpa using h17
        have q18:(op==18)=false:=by simpa using h18
        have HOPS:=Lib.hid (And.intro h1 (And.intro h15 (And.intro h16 (And.intro h17 h18))))
        clear h1 h15 h16 h17 h18
        obtain rfl:n=3:=by omega
        obtain⟨x1,x2,rfl⟩:=list2 (show nt0.length=2 from by have:=HNSL.out;rw[HN0.out]at this;simpa using this)
        obtain rfl:=HN0.out
        have c1:w6.cell? ⟨g,1,none⟩=some (.int .i64 x1):=HGC5.out 1 _ rfl
        have c2:w6.cell? ⟨g,2,none⟩=some (.int .i64 x2):=HGC5.out 2 _ rfl
        have k3:=HBOX.out.cell 3
        go_wp2
        refine HJ.out ⟨op,x0,0,[x1,x2],.slice (some ⟨g,1,none⟩) 2 (gc-1),0⟩ (HBOX.out.set 3 _) ((Turn.refl (fun q=>q=xb) w6).setCell (p:=⟨xb,3,none⟩) rfl _) ?_ ?_
        ·exact⟨ints_part HGC5.out HGL.out 1 2 (gc-1) (by simp) (by omega) (by have:=HG2.out;omega),fun q hq=>by cases hq;exact⟨HNG.out,HGL.out⟩⟩
        ·have:=HOPS.out;simp[insOf,FIns.d,this]
 have aK2:=HAK2.out
 clear HAK1 HAK2
 rcases hl3 with ⟨rfl,rfl,rfl⟩|⟨rfl,rfl,rfl⟩
 ·go_wp2
  exact HJ0.out (((Since.refl w).alloc _).alloc _) (heap_two _ _ _ _)
 ·go_wp2
  exact HJ0.out (((Since.refl w).alloc _).alloc _) (heap_two _ _ _ _)
end
end Go.Proofs.YtmhojfpidedjeaaGreatDoor
